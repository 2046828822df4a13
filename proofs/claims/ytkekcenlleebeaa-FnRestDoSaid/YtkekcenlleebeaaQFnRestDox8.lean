/- Functions of the program as plain Lean functions, and that calls of them come to what these tell. Conditions: those in each law. -/
import Derived.Test.YtkekcenlleebeaaSq
import Derived.Test.YtkekcenlleebeaaDFnRestDo
import Derived.Test.YtkekcenlleebeaaQFnRestDox0
import Derived.Test.YtkekcenlleebeaaQFnRestDox5
import Derived.Test.YtkekcenlleebeaaQFnRestDox6
import Derived.Test.YtkekcenlleebeaaQFnRestDox7
namespace Go.Proofs.Ytkekcenlleebeaa.PFnRestDo
open Go.RowKit Go.Proofs.Ytkekcenlleebeaa.Sq Go.Proofs.YtkekcenlleebeaaW.PrintWords Go.Proofs.YtkekcenlleebeaaW.PrintLast Go.Proofs.YtkekcenlleebeaaW.PrintMore
attribute [local go_sem] max2_int min2_int max_two min_two max_three min_three max_four min_four   -- for this text's walks alone
set_option linter.unusedVariables false
set_option linter.unusedSimpArgs false

/-! ### impl_RestDo: function 63 -/
theorem impl_RestDo.mono_l : ∀ k, (∀ y0 y1 y2 y3 y4 y5, LeO (impl_RestDo.j0 k y0 y1 y2 y3 y4 y5) (impl_RestDo.j0 (k + 1) y0 y1 y2 y3 y4 y5)) ∧ (∀ y0 y1 y2 y3 y4 y5, LeO (impl_RestDo.j1 k y0 y1 y2 y3 y4 y5) (impl_RestDo.j1 (k + 1) y0 y1 y2 y3 y4 y5)) ∧ (∀ y0 y1 y2 y3 y4 y5, LeO (impl_RestDo.j2 k y0 y1 y2 y3 y4 y5) (impl_RestDo.j2 (k + 1) y0 y1 y2 y3 y4 y5)) ∧ (∀ y0 y1 y2 y3 y4 y5 y6, LeO (impl_RestDo.j3 k y0 y1 y2 y3 y4 y5 y6) (impl_RestDo.j3 (k + 1) y0 y1 y2 y3 y4 y5 y6)) ∧ (∀ y0 y1 y2 y3 y4 y5 y6, LeO (impl_RestDo.j4 k y0 y1 y2 y3 y4 y5 y6) (impl_RestDo.j4 (k + 1) y0 y1 y2 y3 y4 y5 y6)) ∧ (∀ y0 y1 y2 y3 y4 y5 y6, LeO (impl_RestDo.j5 k y0 y1 y2 y3 y4 y5 y6) (impl_RestDo.j5 (k + 1) y0 y1 y2 y3 y4 y5 y6)) ∧ (∀ y0 y1 y2 y3 y4, LeO (impl_RestDo.j6 k y0 y1 y2 y3 y4) (impl_RestDo.j6 (k + 1) y0 y1 y2 y3 y4))
  | 0 => ⟨fun _ _ _ _ _ _ r h => by simp [impl_RestDo.j0] at h, fun _ _ _ _ _ _ r h => by simp [impl_RestDo.j1] at h, fun _ _ _ _ _ _ r h => by simp [impl_RestDo.j2] at h, fun _ _ _ _ _ _ _ r h => by simp [impl_RestDo.j3] at h, fun _ _ _ _ _ _ _ r h => by simp [impl_RestDo.j4] at h, fun _ _ _ _ _ _ _ r h => by simp [impl_RestDo.j5] at h, fun _ _ _ _ _ r h => by simp [impl_RestDo.j6] at h⟩
  | k + 1 => by
    obtain ⟨ih0, ih1, ih2, ih3, ih4, ih5, ih6⟩ := impl_RestDo.mono_l k
    refine ⟨?_, ?_, ?_, ?_, ?_, ?_, ?_⟩
    · intro y0 y1 y2 y3 y4 y5
      unfold impl_RestDo.j0
      repeat' first
      | (with_reducible exact ih0 _ _ _ _ _ _)
      | (with_reducible exact ih1 _ _ _ _ _ _)
      | (with_reducible exact ih2 _ _ _ _ _ _)
      | (with_reducible exact ih3 _ _ _ _ _ _ _)
      | (with_reducible exact ih4 _ _ _ _ _ _ _)
      | (with_reducible exact ih5 _ _ _ _ _ _ _)
      | (with_reducible exact ih6 _ _ _ _ _)
      | (with_reducible exact impl_NumDo.mono _ _ _ _)
      | (with_reducible exact impl_restGcd.mono _ _)
      | (with_reducible exact impl_restOf.mono _ _ _)
      | (with_reducible exact LeO.refl _)
      | (with_reducible exact LeO.none _)
      | (with_reducible refine LeO.ite ?_ ?_)
      | (with_reducible refine LeO.bind ?_ (fun _ => ?_))
      | exact ih0 _ _ _ _ _ _
      | exact ih1 _ _ _ _ _ _
      | exact ih2 _ _ _ _ _ _
      | exact ih3 _ _ _ _ _ _ _
      | exact ih4 _ _ _ _ _ _ _
      | exact ih5 _ _ _ _ _ _ _
      | exact ih6 _ _ _ _ _
      | exact impl_NumDo.mono _ _ _ _
      | exact impl_restGcd.mono _ _
      | exact impl_restOf.mono _ _ _
      | exact LeO.none _
      | refine LeO.ite ?_ ?_
      | refine LeO.bind ?_ (fun _ => ?_)
    · intro y0 y1 y2 y3 y4 y5
      unfold impl_RestDo.j1
      repeat' first
      | (with_reducible exact ih0 _ _ _ _ _ _)
      | (with_reducible exact ih1 _ _ _ _ _ _)
      | (with_reducible exact ih2 _ _ _ _ _ _)
      | (with_reducible exact ih3 _ _ _ _ _ _ _)
      | (with_reducible exact ih4 _ _ _ _ _ _ _)
      | (with_reducible exact ih5 _ _ _ _ _ _ _)
      | (with_reducible exact ih6 _ _ _ _ _)
      | (with_reducible exact impl_NumDo.mono _ _ _ _)
      | (with_reducible exact impl_restGcd.mono _ _)
      | (with_reducible exact impl_restOf.mono _ _ _)
      | (with_reducible exact LeO.refl _)
      | (with_reducible exact LeO.none _)
      | (with_reducible refine LeO.ite ?_ ?_)
      | (with_reducible refine LeO.bind ?_ (fun _ => ?_))
      | exact ih0 _ _ _ _ _ _
      | exact ih1 _ _ _ _ _ _
      | exact ih2 _ _ _ _ _ _
      | exact ih3 _ _ _ _ _ _ _
      | exact ih4 _ _ _ _ _ _ _
      | exact ih5 _ _ _ _ _ _ _
      | exact ih6 _ _ _ _ _
      | exact impl_NumDo.mono _ _ _ _
      | exact impl_restGcd.mono _ _
      | exact impl_restOf.mono _ _ _
      | exact LeO.none _
      | refine LeO.ite ?_ ?_
      | refine LeO.bind ?_ (fun _ => ?_)
    · intro y0 y1 y2 y3 y4 y5
      unfold impl_RestDo.j2
      repeat' first
      | (with_reducible exact ih0 _ _ _ _ _ _)
      | (with_reducible exact ih1 _ _ _ _ _ _)
      | (with_reducible exact ih2 _ _ _ _ _ _)
      | (with_reducible exact ih3 _ _ _ _ _ _ _)
      | (with_reducible exact ih4 _ _ _ _ _ _ _)
      | (with_reducible exact ih5 _ _ _ _ _ _ _)
      | (with_reducible exact ih6 _ _ _ _ _)
      | (with_reducible exact impl_NumDo.mono _ _ _ _)
      | (with_reducible exact impl_restGcd.mono _ _)
      | (with_reducible exact impl_restOf.mono _ _ _)
      | (with_reducible exact LeO.refl _)
      | (with_reducible exact LeO.none _)
      | (with_reducible refine LeO.ite ?_ ?_)
      | (with_reducible refine LeO.bind ?_ (fun _ => ?_))
      | exact ih0 _ _ _ _ _ _
      | exact ih1 _ _ _ _ _ _
      | exact ih2 _ _ _ _ _ _
      | exact ih3 _ _ _ _ _ _ _
      | exact ih4 _ _ _ _ _ _ _
      | exact ih5 _ _ _ _ _ _ _
      | exact ih6 _ _ _ _ _
      | exact impl_NumDo.mono _ _ _ _
      | exact impl_restGcd.mono _ _
      | exact impl_restOf.mono _ _ _
      | exact LeO.none _
      | refine LeO.ite ?_ ?_
      | refine LeO.bind ?_ (fun _ => ?_)
    · intro y0 y1 y2 y3 y4 y5 y6
      unfold impl_RestDo.j3
      repeat' first
      | (with_reducible exact ih0 _ _ _ _ _ _)
      | (with_reducible exact ih1 _ _ _ _ _ _)
      | (with_reducible exact ih2 _ _ _ _ _ _)
      | (with_reducible exact ih3 _ _ _ _ _ _ _)
      | (with_reducible exact ih4 _ _ _ _ _ _ _)
      | (with_reducible exact ih5 _ _ _ _ _ _ _)
      | (with_reducible exact ih6 _ _ _ _ _)
      | (with_reducible exact impl_NumDo.mono _ _ _ _)
      | (with_reducible exact impl_restGcd.mono _ _)
      | (with_reducible exact impl_restOf.mono _ _ _)
      | (with_reducible exact LeO.refl _)
      | (with_reducible exact LeO.none _)
      | (with_reducible refine LeO.ite ?_ ?_)
      | (with_reducible refine LeO.bind ?_ (fun _ => ?_))
      | exact ih0 _ _ _ _ _ _
      | exact ih1 _ _ _ _ _ _
      | exact ih2 _ _ _ _ _ _
      | exact ih3 _ _ _ _ _ _ _
      | exact ih4 _ _ _ _ _ _ _
      | exact ih5 _ _ _ _ _ _ _
      | exact ih6 _ _ _ _ _
      | exact impl_NumDo.mono _ _ _ _
      | exact impl_restGcd.mono _ _
      | exact impl_restOf.mono _ _ _
      | exact LeO.none _
      | refine LeO.ite ?_ ?_
      | refine LeO.bind ?_ (fun _ => ?_)
    · intro y0 y1 y2 y3 y4 y5 y6
      unfold impl_RestDo.j4
      repeat' first
      | (with_reducible exact ih0 _ _ _ _ _ _)
      | (with_reducible exact ih1 _ _ _ _ _ _)
      | (with_reducible exact ih2 _ _ _ _ _ _)
      | (with_reducible exact ih3 _ _ _ _ _ _ _)
      | (with_reducible exact ih4 _ _ _ _ _ _ _)
      | (with_reducible exact ih5 _ _ _ _ _ _ _)
      | (with_reducible exact ih6 _ _ _ _ _)
      | (with_reducible exact impl_NumDo.mono _ _ _ _)
      | (with_reducible exact impl_restGcd.mono _ _)
      | (with_reducible exact impl_restOf.mono _ _ _)
      | (with_reducible exact LeO.refl _)
      | (with_reducible exact LeO.none _)
      | (with_reducible refine LeO.ite ?_ ?_)
      | (with_reducible refine LeO.bind ?_ (fun _ => ?_))
      | exact ih0 _ _ _ _ _ _
      | exact ih1 _ _ _ _ _ _
      | exact ih2 _ _ _ _ _ _
      | exact ih3 _ _ _ _ _ _ _
      | exact ih4 _ _ _ _ _ _ _
      | exact ih5 _ _ _ _ _ _ _
      | exact ih6 _ _ _ _ _
      | exact impl_NumDo.mono _ _ _ _
      | exact impl_restGcd.mono _ _
      | exact impl_restOf.mono _ _ _
      | exact LeO.none _
      | refine LeO.ite ?_ ?_
      | refine LeO.bind ?_ (fun _ => ?_)
    · intro y0 y1 y2 y3 y4 y5 y6
      unfold impl_RestDo.j5
      repeat' first
      | (with_reducible exact ih0 _ _ _ _ _ _)
      | (with_reducible exact ih1 _ _ _ _ _ _)
      | (with_reducible exact ih2 _ _ _ _ _ _)
      | (with_reducible exact ih3 _ _ _ _ _ _ _)
      | (with_reducible exact ih4 _ _ _ _ _ _ _)
      | (with_reducible exact ih5 _ _ _ _ _ _ _)
      | (with_reducible exact ih6 _ _ _ _ _)
      | (with_reducible exact impl_NumDo.mono _ _ _ _)
      | (with_reducible exact impl_restGcd.mono _ _)
      | (with_reducible exact impl_restOf.mono _ _ _)
      | (with_reducible exact LeO.refl _)
      | (with_reducible exact LeO.none _)
      | (with_reducible refine LeO.ite ?_ ?_)
      | (with_reducible refine LeO.bind ?_ (fun _ => ?_))
      | exact ih0 _ _ _ _ _ _
      | exact ih1 _ _ _ _ _ _
      | exact ih2 _ _ _ _ _ _
      | exact ih3 _ _ _ _ _ _ _
      | exact ih4 _ _ _ _ _ _ _
      | exact ih5 _ _ _ _ _ _ _
      | exact ih6 _ _ _ _ _
      | exact impl_NumDo.mono _ _ _ _
      | exact impl_restGcd.mono _ _
      | exact impl_restOf.mono _ _ _
      | exact LeO.none _
      | refine LeO.ite ?_ ?_
      | refine LeO.bind ?_ (fun _ => ?_)
    · intro y0 y1 y2 y3 y4
      unfold impl_RestDo.j6
      repeat' first
      | (with_reducible exact ih0 _ _ _ _ _ _)
      | (with_reducible exact ih1 _ _ _ _ _ _)
      | (with_reducible exact ih2 _ _ _ _ _ _)
      | (with_reducible exact ih3 _ _ _ _ _ _ _)
      | (with_reducible exact ih4 _ _ _ _ _ _ _)
      | (with_reducible exact ih5 _ _ _ _ _ _ _)
      | (with_reducible exact ih6 _ _ _ _ _)
      | (with_reducible exact impl_NumDo.mono _ _ _ _)
      | (with_reducible exact impl_restGcd.mono _ _)
      | (with_reducible exact impl_restOf.mono _ _ _)
      | (with_reducible exact LeO.refl _)
      | (with_reducible exact LeO.none _)
      | (with_reducible refine LeO.ite ?_ ?_)
      | (with_reducible refine LeO.bind ?_ (fun _ => ?_))
      | exact ih0 _ _ _ _ _ _
      | exact ih1 _ _ _ _ _ _
      | exact ih2 _ _ _ _ _ _
      | exact ih3 _ _ _ _ _ _ _
      | exact ih4 _ _ _ _ _ _ _
      | exact ih5 _ _ _ _ _ _ _
      | exact ih6 _ _ _ _ _
      | exact impl_NumDo.mono _ _ _ _
      | exact impl_restGcd.mono _ _
      | exact impl_restOf.mono _ _ _
      | exact LeO.none _
      | refine LeO.ite ?_ ?_
      | refine LeO.bind ?_ (fun _ => ?_)
theorem impl_RestDo.mono : ∀ a0 a1 a2 a3 a4 k, LeO (impl_RestDo.f k a0 a1 a2 a3 a4) (impl_RestDo.f (k + 1) a0 a1 a2 a3 a4) := by
  intro a0 a1 a2 a3 a4 k
  obtain ⟨ih0, ih1, ih2, ih3, ih4, ih5, ih6⟩ := impl_RestDo.mono_l k
  unfold impl_RestDo.f
  repeat' first
      | (with_reducible exact ih0 _ _ _ _ _ _)
      | (with_reducible exact ih1 _ _ _ _ _ _)
      | (with_reducible exact ih2 _ _ _ _ _ _)
      | (with_reducible exact ih3 _ _ _ _ _ _ _)
      | (with_reducible exact ih4 _ _ _ _ _ _ _)
      | (with_reducible exact ih5 _ _ _ _ _ _ _)
      | (with_reducible exact ih6 _ _ _ _ _)
      | (with_reducible exact impl_NumDo.mono _ _ _ _)
      | (with_reducible exact impl_restGcd.mono _ _)
      | (with_reducible exact impl_restOf.mono _ _ _)
      | (with_reducible exact LeO.refl _)
      | (with_reducible exact LeO.none _)
      | (with_reducible refine LeO.ite ?_ ?_)
      | (with_reducible refine LeO.bind ?_ (fun _ => ?_))
      | exact ih0 _ _ _ _ _ _
      | exact ih1 _ _ _ _ _ _
      | exact ih2 _ _ _ _ _ _
      | exact ih3 _ _ _ _ _ _ _
      | exact ih4 _ _ _ _ _ _ _
      | exact ih5 _ _ _ _ _ _ _
      | exact ih6 _ _ _ _ _
      | exact impl_NumDo.mono _ _ _ _
      | exact impl_restGcd.mono _ _
      | exact impl_restOf.mono _ _ _
      | exact LeO.none _
      | refine LeO.ite ?_ ?_
      | refine LeO.bind ?_ (fun _ => ?_)
def impl_RestDo.T17 : Bool × List (List Nat × List Nat) := (true, [([], []), ([0], [0]), ([], []), ([2], [2]), ([1, 3], [1, 3]), ([], []), ([5], [5]), ([], []), ([7], [7]), ([], []), ([6, 8, 9], [6, 8, 9]), ([10], [10]), ([4, 11, 11], [4, 11]), ([12, 12, 0, 1, 2, 3, 4, 5, 6, 7, 8, 9, 10, 11, 12], [12])])
def impl_RestDo.B17 : List Nat := [0, 1, 0, 4, 15, 0, 32, 0, 128, 0, 992, 2016, 4095, 8191]
theorem impl_RestDo.tab17 : rtab .any (opsOf Try.f63 17) = impl_RestDo.T17 := by kernel_rfl
theorem impl_RestDo.bits17 : waitsOk impl_RestDo.T17.2 impl_RestDo.B17 = true := by kernel_rfl
def impl_RestDo.T20 : Bool × List (List Nat × List Nat) := (true, [([], []), ([0], [0]), ([], []), ([2], [2]), ([1, 3], [1, 3]), ([], []), ([5], [5]), ([], []), ([7], [7]), ([], []), ([6, 8, 9], [6, 8, 9]), ([10], [10]), ([4, 11, 11], [4, 11]), ([12, 12, 0, 1, 2, 3, 4, 5, 6, 7, 8, 9, 10, 11, 12], [12])])
def impl_RestDo.B20 : List Nat := [0, 1, 0, 4, 15, 0, 32, 0, 128, 0, 992, 2016, 4095, 8191]
theorem impl_RestDo.tab20 : rtab .any (opsOf Try.f63 20) = impl_RestDo.T20 := by kernel_rfl
theorem impl_RestDo.bits20 : waitsOk impl_RestDo.T20.2 impl_RestDo.B20 = true := by kernel_rfl
def impl_RestDo.T26 : Bool × List (List Nat × List Nat) := (true, [([], []), ([0], [0]), ([], []), ([2], [2]), ([1, 3], [1, 3]), ([], []), ([], []), ([5, 6], [5, 6]), ([7], [7]), ([4, 8, 8], [4, 8]), ([9, 9, 0, 1, 2, 3, 4, 5, 6, 7, 8, 9], [9])])
def impl_RestDo.B26 : List Nat := [0, 1, 0, 4, 15, 0, 0, 96, 224, 511, 1023]
theorem impl_RestDo.tab26 : rtab .any (opsOf Try.f63 26) = impl_RestDo.T26 := by kernel_rfl
theorem impl_RestDo.bits26 : waitsOk impl_RestDo.T26.2 impl_RestDo.B26 = true := by kernel_rfl
set_option maxHeartbeats 8000000 in
set_option maxRecDepth 100000 in
theorem impl_RestDo.calls (k : Nat) (a0 : Int) (a1_0 : Int) (a1_1 : Int) (a2_0 : Int) (a2_1 : Int) (r1 : Int) (r2 : Int) (w : World) (h : impl_RestDo.f k a0 a1_0 a1_1 a2_0 a2_1 = some (r1, r2)) :
    Calls Try.prog 63 #[.int .i64 a0, .agg #[.int .i64 a1_0, .int .i64 a1_1], .agg #[.int .i64 a2_0, .int .i64 a2_1]] w fun e w' => e = .returned (.agg #[.int .i64 r1, .int .i64 r2]) ∧ Below w.heap.size w w' := by
  have hu26 := Try.underlying26
  have HB := Aside0.mk (Below.refl w.heap.size w)
  have H : ((impl_numOp.f a0).bind fun t245 => (if t245 = true then ((impl_RestOk.f a1_0 a1_1).bind fun t246 => (if t246 = true then ((impl_RestOk.f a2_0 a2_1).bind fun t247 => (impl_RestDo.j0 k a0 (!t247) a1_0 a1_1 a2_0 a2_1)) else (impl_RestDo.j0 k a0 true a1_0 a1_1 a2_0 a2_1))) else (impl_RestDo.j0 k a0 true a1_0 a1_1 a2_0 a2_1))) = some (r1, r2) := h
  clear h
  have HC4 := Aside0.mk H
  clear H
  go_enter Try.func63, Try.ntmps63
  go_upto_region 1 with (first | ((with_reducible refine gate_dst (N := 4) rfl ?_); refine sqx 4 #[.int .i64 a1_0, .int .i64 a1_1] 26 ?_; intro gb242 hg w5 hbox hb; have BK242 := Aside0.mk (hbox); have GW242 := sqg HB hg; have GE242 := sqg HB hg; replace HB := sqs HB hb; clear hb hbox hg) | ((with_reducible refine gate_dst (N := 5) rfl ?_); refine sqx 5 #[.int .i64 a2_0, .int .i64 a2_1] 26 ?_; intro gb243 hg w6 hbox hb; have BK243 := Aside0.mk (hbox); have GW243 := sqg HB hg; have GE243 := sqg HB hg; have NB242_243 := sqn BK242 hg; have NB243_242 := sqm BK242 hg; replace BK242 := sqb BK242 hb; replace HB := sqs HB hb; clear hb hbox hg) | ((with_reducible refine gate_dst (N := 6) rfl ?_); refine sqx 6 #[.int .i64 0, .int .i64 0] 26 ?_; intro gb244 hg w7 hbox hb; have BK244 := Aside0.mk (hbox); have GW244 := sqg HB hg; have GE244 := sqg HB hg; have NB242_244 := sqn BK242 hg; have NB244_242 := sqm BK242 hg; have NB243_244 := sqn BK243 hg; have NB244_243 := sqm BK243 hg; replace BK242 := sqb BK242 hb; replace BK243 := sqb BK243 hb; replace HB := sqs HB hb; clear hb hbox hg))
  (try simp only [Act.put, List.setIfInBounds_toArray, List.set_cons_zero, List.set_cons_succ])
  go_cut [25] (fun v25 wc => ∃ (kq : Nat) (x25_3 : Bool), v25 = .bool x25_3 ∧ Aside0 (impl_RestDo.j0 kq a0 x25_3 a1_0 a1_1 a2_0 a2_1 = some (r1, r2)) ∧ Aside0 (kq ≤ k) ∧ Aside0 (wc.heap[gb242]? = some (.cells #[.int .i64 a1_0, .int .i64 a1_1] 26 (0, 0))) ∧ Aside0 (wc.heap[gb243]? = some (.cells #[.int .i64 a2_0, .int .i64 a2_1] 26 (0, 0))) ∧ Aside0 (wc.heap[gb244]? = some (.cells #[.int .i64 0, .int .i64 0] 26 (0, 0))) ∧ Aside0 (Below w.heap.size w wc))
  case first =>
    have H := HC4.out
    clear HC4
    replace H := Option.bind_eq_some_iff.mp H
    obtain ⟨t245, A80, H⟩ := H
    replace H : (if t245 = true then ((impl_RestOk.f a1_0 a1_1).bind fun t246 => (if t246 = true then ((impl_RestOk.f a2_0 a2_1).bind fun t247 => (impl_RestDo.j0 k a0 (!t247) a1_0 a1_1 a2_0 a2_1)) else (impl_RestDo.j0 k a0 true a1_0 a1_1 a2_0 a2_1))) else (impl_RestDo.j0 k a0 true a1_0 a1_1 a2_0 a2_1)) = some (r1, r2) := H
    have A8 := Aside0.mk A80
    clear A80
    by_cases c9 : t245 = true
    · subst c9
      have H1 : ((impl_RestOk.f a1_0 a1_1).bind fun t246 => (if t246 = true then ((impl_RestOk.f a2_0 a2_1).bind fun t247 => (impl_RestDo.j0 k a0 (!t247) a1_0 a1_1 a2_0 a2_1)) else (impl_RestDo.j0 k a0 true a1_0 a1_1 a2_0 a2_1))) = some (r1, r2) := by rw [if_pos rfl] at H; exact H
      clear H
      have H := H1
      clear H1
      replace H := Option.bind_eq_some_iff.mp H
      obtain ⟨t246, A100, H⟩ := H
      replace H : (if t246 = true then ((impl_RestOk.f a2_0 a2_1).bind fun t247 => (impl_RestDo.j0 k a0 (!t247) a1_0 a1_1 a2_0 a2_1)) else (impl_RestDo.j0 k a0 true a1_0 a1_1 a2_0 a2_1)) = some (r1, r2) := H
      have A10 := Aside0.mk A100
      clear A100
      by_cases c11 : t246 = true
      · subst c11
        have H1 : ((impl_RestOk.f a2_0 a2_1).bind fun t247 => (impl_RestDo.j0 k a0 (!t247) a1_0 a1_1 a2_0 a2_1)) = some (r1, r2) := by rw [if_pos rfl] at H; exact H
        clear H
        have H := H1
        clear H1
        replace H := Option.bind_eq_some_iff.mp H
        obtain ⟨t247, A120, H⟩ := H
        replace H : (impl_RestDo.j0 k a0 (!t247) a1_0 a1_1 a2_0 a2_1) = some (r1, r2) := H
        have A12 := Aside0.mk A120
        clear A120
        have H' := Aside0.mk H
        clear H
        go_wp2_with (first | ((with_reducible refine gate_callee (f := 149) rfl ?_); refine sqL (some 14) Try.func149 #[.int .i64 a0] ?_; (with_reducible refine (impl_numOp.calls a0 true _ A8.out).mono ?_); rintro e w' ⟨rfl, ⟨nd, rfl⟩⟩; refine ⟨_, rfl, ?_⟩; have hnb13 := NB242_243.out; have hnc13 := NB243_242.out; have hnb14 := NB242_244.out; have hnc14 := NB244_242.out; obtain ⟨hcz15_0, hcz15_1, hfz15_0, hfz15_1⟩ := sqc2 BK242) | (go_at_call 65; (with_reducible refine (impl_RestOk.calls a1_0 a1_1 true _ A10.out).mono ?_); rintro e w16 ⟨rfl, hb⟩; replace BK242 := sqb BK242 hb; replace BK243 := sqb BK243 hb; replace BK244 := sqb BK244 hb; replace HB := sqs HB hb; (try clear hb); have hnb17 := NB243_244.out; have hnc17 := NB244_243.out; obtain ⟨hcz18_0, hcz18_1, hfz18_0, hfz18_1⟩ := sqc2 BK243) | (go_at_call 65; (with_reducible refine (impl_RestOk.calls a2_0 a2_1 t247 _ A12.out).mono ?_); rintro e w19 ⟨rfl, hb⟩; replace BK242 := sqb BK242 hb; replace BK243 := sqb BK243 hb; replace BK244 := sqb BK244 hb; replace HB := sqs HB hb; (try clear hb)))
        go_meet
        case rel => exact ⟨_, (!t247), (by first | rfl | (simp; done) | (simp [*]; done)), H', ⟨by first | omega | exact Nat.le_refl _⟩, sqk BK242, sqk BK243, sqk BK244, sqh HB⟩
      · replace c11 := Bool.eq_false_iff.mpr c11
        subst c11
        have H1 : (impl_RestDo.j0 k a0 true a1_0 a1_1 a2_0 a2_1) = some (r1, r2) := by rw [if_neg (show ¬ (false = true) by decide)] at H; exact H
        clear H
        have H := H1
        clear H1
        have H' := Aside0.mk H
        clear H
        go_wp2_with (first | ((with_reducible refine gate_callee (f := 149) rfl ?_); refine sqL (some 14) Try.func149 #[.int .i64 a0] ?_; (with_reducible refine (impl_numOp.calls a0 true _ A8.out).mono ?_); rintro e w' ⟨rfl, ⟨nd, rfl⟩⟩; refine ⟨_, rfl, ?_⟩; have hnb20 := NB242_243.out; have hnc20 := NB243_242.out; have hnb21 := NB242_244.out; have hnc21 := NB244_242.out; obtain ⟨hcz22_0, hcz22_1, hfz22_0, hfz22_1⟩ := sqc2 BK242) | (go_at_call 65; (with_reducible refine (impl_RestOk.calls a1_0 a1_1 false _ A10.out).mono ?_); rintro e w23 ⟨rfl, hb⟩; replace BK242 := sqb BK242 hb; replace BK243 := sqb BK243 hb; replace BK244 := sqb BK244 hb; replace HB := sqs HB hb; (try clear hb)))
        go_meet
        case rel => exact ⟨_, (true), (by first | rfl | (simp; done) | (simp [*]; done)), H', ⟨by first | omega | exact Nat.le_refl _⟩, sqk BK242, sqk BK243, sqk BK244, sqh HB⟩
    · replace c9 := Bool.eq_false_iff.mpr c9
      subst c9
      have H1 : (impl_RestDo.j0 k a0 true a1_0 a1_1 a2_0 a2_1) = some (r1, r2) := by rw [if_neg (show ¬ (false = true) by decide)] at H; exact H
      clear H
      have H := H1
      clear H1
      have H' := Aside0.mk H
      clear H
      go_wp2_with (first | ((with_reducible refine gate_callee (f := 149) rfl ?_); refine sqL (some 14) Try.func149 #[.int .i64 a0] ?_; (with_reducible refine (impl_numOp.calls a0 false _ A8.out).mono ?_); rintro e w' ⟨rfl, ⟨nd, rfl⟩⟩; refine ⟨_, rfl, ?_⟩))
      go_meet
      case rel => exact ⟨_, (true), (by first | rfl | (simp; done) | (simp [*]; done)), H', ⟨by first | omega | exact Nat.le_refl _⟩, sqk BK242, sqk BK243, sqk BK244, sqh HB⟩
  case rest =>
    clear HC4
    obtain ⟨kq, x25_3, rfl, HA, HJ3, BK242, BK243, BK244, HB⟩ := hcut
    cases kq with
    | zero => exact absurd HA.out (by simp [impl_RestDo.j0])
    | succ kj3 =>
      have H := HA.out
      clear HA
      simp only [impl_RestDo.j0] at H
      by_cases c24 : x25_3 = true
      · subst c24
        have H1 : ((impl_restAll.f).bind fun bt248 => (some (bt248.1, bt248.2))) = some (r1, r2) := by rw [if_pos rfl] at H; exact H
        clear H
        have H := H1
        clear H1
        replace H := Option.bind_eq_some_iff.mp H
        obtain ⟨⟨t248, t249⟩, A250, H⟩ := H
        replace H : (some (t248, t249)) = some (r1, r2) := H
        have A25 := Aside0.mk A250
        clear A250
        simp only [Option.some.injEq, Prod.mk.injEq] at H
        obtain ⟨rfl, rfl⟩ := H
        go_wp2_with (first | ((with_reducible refine gate_callee (f := 150) rfl ?_); refine sqL (some 26) Try.func150 #[] ?_; (with_reducible refine (impl_restAll.calls  t248 t249 _ A25.out).mono ?_); rintro e w26 ⟨rfl, hb⟩; refine ⟨_, rfl, ?_⟩; replace BK242 := sqb BK242 hb; replace BK243 := sqb BK243 hb; replace BK244 := sqb BK244 hb; replace HB := sqs HB hb; (try clear hb); have hnb27 := NB244_242.out; have hnc27 := NB242_244.out; have hnb28 := NB244_243.out; have hnc28 := NB243_244.out; obtain ⟨hcz29_0, hcz29_1, hfz29_0, hfz29_1⟩ := sqc2 BK244))
        refine bodyPost_ret (results_cell_row rfl _ _ gb244 26 #[.int .i64 t248, .int .i64 t249] (0, 0) _ rfl (by refine sqt ?_; refine blk_put (cs := #[.int .i64 t248, .int .i64 0]) ?_ 1 _ rfl; refine sqt ?_; refine blk_put (cs := #[.int .i64 0, .int .i64 0]) ?_ 0 _ rfl; refine sqt ?_; exact BK244.out) Try.underlying26 rfl (by kernel_rfl)) rfl ?_
        exact sqe HB
      · replace c24 := Bool.eq_false_iff.mpr c24
        subst c24
        have H1 : (if a1_0 = 0 then (impl_RestDo.j1 kj3 a0 (a2_0 == 0) a1_0 a1_1 a2_0 a2_1) else (impl_RestDo.j1 kj3 a0 false a1_0 a1_1 a2_0 a2_1)) = some (r1, r2) := by rw [if_neg (show ¬ (false = true) by decide)] at H; exact H
        clear H
        have H := H1
        clear H1
        have HC30 := Aside0.mk H
        clear H
        go_upto_region 3 with (fail)
        go_cut [34] (fun v34 wc => ∃ (kq : Nat) (x34_29 : Bool), v34 = .bool x34_29 ∧ Aside0 (impl_RestDo.j1 kq a0 x34_29 a1_0 a1_1 a2_0 a2_1 = some (r1, r2)) ∧ Aside0 (kq ≤ kj3) ∧ Aside0 (wc.heap[gb242]? = some (.cells #[.int .i64 a1_0, .int .i64 a1_1] 26 (0, 0))) ∧ Aside0 (wc.heap[gb243]? = some (.cells #[.int .i64 a2_0, .int .i64 a2_1] 26 (0, 0))) ∧ Aside0 (wc.heap[gb244]? = some (.cells #[.int .i64 0, .int .i64 0] 26 (0, 0))) ∧ Aside0 (Below w.heap.size w wc))
        case first =>
          have H := HC30.out
          clear HC30
          by_cases c31 : a1_0 = 0
          · rw [if_pos c31] at H
            have c31b0 : (a1_0 == 0) = true := beq_iff_eq.mpr c31
            have c31b1 : (a1_0 != 0) = false := bne_eq_false_iff_eq.mpr c31
            clear c31
            (first | rw [c31b0] | (simp only [i64_w, i32_w]; rw [c31b0]) | skip)
            have H' := Aside0.mk H
            clear H
            have hnb32 := NB242_243.out
            have hnc32 := NB243_242.out
            have hnb33 := NB242_244.out
            have hnc33 := NB244_242.out
            obtain ⟨hcz34_0, hcz34_1, hfz34_0, hfz34_1⟩ := sqc2 BK242
            have hnb35 := NB243_244.out
            have hnc35 := NB244_243.out
            obtain ⟨hcz36_0, hcz36_1, hfz36_0, hfz36_1⟩ := sqc2 BK243
            go_wp2
            go_meet
            case rel => exact ⟨_, ((a2_0 == 0)), (by first | rfl | (simp; done) | (simp [*]; done)), H', ⟨by have := HJ3.out; first | omega | exact Nat.le_refl _⟩, sqk BK242, sqk BK243, sqk BK244, sqh HB⟩
          · rw [if_neg c31] at H
            have c31b0 : (a1_0 == 0) = false := beq_eq_false_iff_ne.mpr c31
            have c31b1 : (a1_0 != 0) = true := bne_iff_ne.mpr c31
            (first | rw [c31b0] | (simp only [i64_w, i32_w]; rw [c31b0]) | skip)
            have H' := Aside0.mk H
            clear H
            have hnb37 := NB242_243.out
            have hnc37 := NB243_242.out
            have hnb38 := NB242_244.out
            have hnc38 := NB244_242.out
            obtain ⟨hcz39_0, hcz39_1, hfz39_0, hfz39_1⟩ := sqc2 BK242
            go_wp2
            go_meet
            case rel => exact ⟨_, (false), (by first | rfl | (simp; done) | (simp [*]; done)), H', ⟨by have := HJ3.out; first | omega | exact Nat.le_refl _⟩, sqk BK242, sqk BK243, sqk BK244, sqh HB⟩
        case rest =>
          clear HC30
          try clear c9
          try clear c11
          try clear c24
          try clear hcz15_0
          try clear hcz15_1
          try clear hcz18_0
          try clear hcz18_1
          try clear hcz22_0
          try clear hcz22_1
          try clear hcz29_0
          try clear hcz29_1
          try clear hfz15_0
          try clear hfz15_1
          try clear hfz18_0
          try clear hfz18_1
          try clear hfz22_0
          try clear hfz22_1
          try clear hfz29_0
          try clear hfz29_1
          obtain ⟨kq, x34_29, rfl, HA, HJ29, BK242, BK243, BK244, HB⟩ := hcut
          cases kq with
          | zero => exact absurd HA.out (by simp [impl_RestDo.j1])
          | succ kj29 =>
            have H := HA.out
            clear HA
            simp only [impl_RestDo.j1] at H
            by_cases c40 : x34_29 = true
            · subst c40
              have H1 : ((impl_NumDo.f kj29 a0 a1_1 a2_1).bind fun bt250 => (if bt250.2 = 0 then (some (0, bt250.1)) else ((impl_restAll.f).bind fun bt252 => (some (bt252.1, bt252.2))))) = some (r1, r2) := by rw [if_pos rfl] at H; exact H
              clear H
              have H := H1
              clear H1
              replace H := Option.bind_eq_some_iff.mp H
              obtain ⟨⟨t250, t251⟩, A410, H⟩ := H
              replace H : (if t251 = 0 then (some (0, t250)) else ((impl_restAll.f).bind fun bt252 => (some (bt252.1, bt252.2)))) = some (r1, r2) := H
              have A41 := Aside0.mk A410
              clear A410
              by_cases c42 : t251 = 0
              · rw [if_pos c42] at H
                have c42b0 : (t251 == 0) = true := beq_iff_eq.mpr c42
                have c42b1 : (t251 != 0) = false := bne_eq_false_iff_eq.mpr c42
                clear c42
                simp only [Option.some.injEq, Prod.mk.injEq] at H
                obtain ⟨rfl, rfl⟩ := H
                have hnb43 := NB242_243.out
                have hnc43 := NB243_242.out
                have hnb44 := NB242_244.out
                have hnc44 := NB244_242.out
                obtain ⟨hcz45_0, hcz45_1, hfz45_0, hfz45_1⟩ := sqc2 BK242
                have hnb46 := NB243_244.out
                have hnc46 := NB244_243.out
                obtain ⟨hcz47_0, hcz47_1, hfz47_0, hfz47_1⟩ := sqc2 BK243
                go_wp2_with (first | ((with_reducible refine gate_callee (f := 74) rfl ?_); refine sqL (some 41) Try.func74 #[.int .i64 a0, .int .i64 a1_1, .int .i64 a2_1] ?_; (with_reducible refine (impl_NumDo.calls kj29 a0 a1_1 a2_1 t250 t251 _ A41.out).mono ?_); rintro e w' ⟨rfl, ⟨nd, rfl⟩⟩; refine ⟨_, rfl, ?_⟩; (try (rw [drewN_self wc]; generalize hq_ : World.drewN wc _ = wc; replace BK242 := sqq BK242 hq_; replace BK243 := sqq BK243 hq_; replace BK244 := sqq BK244 hq_; replace HB := sqr HB hq_; clear hq_; obtain ⟨hqz1_0, hqz1_1, hqf1_0, hqf1_1⟩ := sqc2 BK242; obtain ⟨hqz2_0, hqz2_1, hqf2_0, hqf2_1⟩ := sqc2 BK243; obtain ⟨hqz3_0, hqz3_1, hqf3_0, hqf3_1⟩ := sqc2 BK244)); obtain ⟨hcz48_0, hcz48_1, hfz48_0, hfz48_1⟩ := sqc2 BK244))
                refine bodyPost_ret (results_cell_row rfl _ _ gb244 26 #[.int .i64 0, .int .i64 t250] (0, 0) _ rfl (by refine sqt ?_; refine blk_put (cs := #[.int .i64 0, .int .i64 0]) ?_ 1 _ rfl; refine sqt ?_; refine blk_put (cs := #[.int .i64 0, .int .i64 0]) ?_ 0 _ rfl; refine sqt ?_; exact BK244.out) Try.underlying26 rfl (by kernel_rfl)) rfl ?_
                exact sqe HB
              · rw [if_neg c42] at H
                have c42b0 : (t251 == 0) = false := beq_eq_false_iff_ne.mpr c42
                have c42b1 : (t251 != 0) = true := bne_iff_ne.mpr c42
                replace H := Option.bind_eq_some_iff.mp H
                obtain ⟨⟨t252, t253⟩, A490, H⟩ := H
                replace H : (some (t252, t253)) = some (r1, r2) := H
                have A49 := Aside0.mk A490
                clear A490
                simp only [Option.some.injEq, Prod.mk.injEq] at H
                obtain ⟨rfl, rfl⟩ := H
                have hnb50 := NB242_243.out
                have hnc50 := NB243_242.out
                have hnb51 := NB242_244.out
                have hnc51 := NB244_242.out
                obtain ⟨hcz52_0, hcz52_1, hfz52_0, hfz52_1⟩ := sqc2 BK242
                have hnb53 := NB243_244.out
                have hnc53 := NB244_243.out
                obtain ⟨hcz54_0, hcz54_1, hfz54_0, hfz54_1⟩ := sqc2 BK243
                go_wp2_with (first | ((with_reducible refine gate_callee (f := 74) rfl ?_); refine sqL (some 41) Try.func74 #[.int .i64 a0, .int .i64 a1_1, .int .i64 a2_1] ?_; (with_reducible refine (impl_NumDo.calls kj29 a0 a1_1 a2_1 t250 t251 _ A41.out).mono ?_); rintro e w' ⟨rfl, ⟨nd, rfl⟩⟩; refine ⟨_, rfl, ?_⟩; (try (rw [drewN_self wc]; generalize hq_ : World.drewN wc _ = wc; replace BK242 := sqq BK242 hq_; replace BK243 := sqq BK243 hq_; replace BK244 := sqq BK244 hq_; replace HB := sqr HB hq_; clear hq_; obtain ⟨hqz4_0, hqz4_1, hqf4_0, hqf4_1⟩ := sqc2 BK242; obtain ⟨hqz5_0, hqz5_1, hqf5_0, hqf5_1⟩ := sqc2 BK243; obtain ⟨hqz6_0, hqz6_1, hqf6_0, hqf6_1⟩ := sqc2 BK244))) | ((with_reducible refine gate_callee (f := 150) rfl ?_); refine sqL (some 46) Try.func150 #[] ?_; (with_reducible refine (impl_restAll.calls  t252 t253 _ A49.out).mono ?_); rintro e w55 ⟨rfl, hb⟩; refine ⟨_, rfl, ?_⟩; replace BK242 := sqb BK242 hb; replace BK243 := sqb BK243 hb; replace BK244 := sqb BK244 hb; replace HB := sqs HB hb; (try clear hb); obtain ⟨hcz56_0, hcz56_1, hfz56_0, hfz56_1⟩ := sqc2 BK244))
                refine bodyPost_ret (results_cell_row rfl _ _ gb244 26 #[.int .i64 t252, .int .i64 t253] (0, 0) _ rfl (by refine sqt ?_; refine blk_put (cs := #[.int .i64 t252, .int .i64 0]) ?_ 1 _ rfl; refine sqt ?_; refine blk_put (cs := #[.int .i64 0, .int .i64 0]) ?_ 0 _ rfl; refine sqt ?_; exact BK244.out) Try.underlying26 rfl (by kernel_rfl)) rfl ?_
                exact sqe HB
            · replace c40 := Bool.eq_false_iff.mpr c40
              subst c40
              have H1 : (if a0 = 11 then (impl_RestDo.j2 kj29 a0 4294967296 a1_0 a1_1 a2_0 a2_1) else (if a0 = 12 then (impl_RestDo.j2 kj29 a0 4294967296 a1_0 a1_1 a2_0 a2_1) else (if a0 = 13 then (impl_RestDo.j2 kj29 a0 4294967296 a1_0 a1_1 a2_0 a2_1) else (impl_RestDo.j2 kj29 a0 0 a1_0 a1_1 a2_0 a2_1)))) = some (r1, r2) := by rw [if_neg (show ¬ (false = true) by decide)] at H; exact H
              clear H
              have H := H1
              clear H1
              have HC57 := Aside0.mk H
              clear H
              go_upto_block 0 with (fail)
              go_cut [9] (fun v9 wc => ∃ (kq : Nat) (x9_56 : Int), v9 = .int .i64 x9_56 ∧ Aside0 (impl_RestDo.j2 kq a0 x9_56 a1_0 a1_1 a2_0 a2_1 = some (r1, r2)) ∧ Aside0 (kq ≤ kj29) ∧ Aside0 (wc.heap[gb242]? = some (.cells #[.int .i64 a1_0, .int .i64 a1_1] 26 (0, 0))) ∧ Aside0 (wc.heap[gb243]? = some (.cells #[.int .i64 a2_0, .int .i64 a2_1] 26 (0, 0))) ∧ Aside0 (wc.heap[gb244]? = some (.cells #[.int .i64 0, .int .i64 0] 26 (0, 0))) ∧ Aside0 (Below w.heap.size w wc))
              case first =>
                have H := HC57.out
                clear HC57
                by_cases c58 : a0 = 11
                · rw [if_pos c58] at H
                  have c58b0 : (a0 == 11) = true := beq_iff_eq.mpr c58
                  have c58b1 : (a0 != 11) = false := bne_eq_false_iff_eq.mpr c58
                  clear c58
                  (first | rw [c58b0] | (simp only [i64_w, i32_w]; rw [c58b0]) | skip)
                  have H' := Aside0.mk H
                  clear H
                  go_wp2
                  go_meet
                  case rel => exact ⟨_, (4294967296), (by first | rfl | (simp; done) | (simp [*]; done)), H', ⟨by have := HJ3.out; have := HJ29.out; first | omega | exact Nat.le_refl _⟩, sqk BK242, sqk BK243, sqk BK244, sqh HB⟩
                · rw [if_neg c58] at H
                  have c58b0 : (a0 == 11) = false := beq_eq_false_iff_ne.mpr c58
                  have c58b1 : (a0 != 11) = true := bne_iff_ne.mpr c58
                  (first | rw [c58b0] | (simp only [i64_w, i32_w]; rw [c58b0]) | skip)
                  by_cases c59 : a0 = 12
                  · rw [if_pos c59] at H
                    have c59b0 : (a0 == 12) = true := beq_iff_eq.mpr c59
                    have c59b1 : (a0 != 12) = false := bne_eq_false_iff_eq.mpr c59
                    clear c59
                    have H' := Aside0.mk H
                    clear H
                    go_wp2
                    go_meet
                    case rel => exact ⟨_, (4294967296), (by first | rfl | (simp; done) | (simp [*]; done)), H', ⟨by have := HJ3.out; have := HJ29.out; first | omega | exact Nat.le_refl _⟩, sqk BK242, sqk BK243, sqk BK244, sqh HB⟩
                  · rw [if_neg c59] at H
                    have c59b0 : (a0 == 12) = false := beq_eq_false_iff_ne.mpr c59
                    have c59b1 : (a0 != 12) = true := bne_iff_ne.mpr c59
                    by_cases c60 : a0 = 13
                    · rw [if_pos c60] at H
                      have c60b0 : (a0 == 13) = true := beq_iff_eq.mpr c60
                      have c60b1 : (a0 != 13) = false := bne_eq_false_iff_eq.mpr c60
                      clear c60
                      have H' := Aside0.mk H
                      clear H
                      go_wp2
                      go_meet
                      case rel => exact ⟨_, (4294967296), (by first | rfl | (simp; done) | (simp [*]; done)), H', ⟨by have := HJ3.out; have := HJ29.out; first | omega | exact Nat.le_refl _⟩, sqk BK242, sqk BK243, sqk BK244, sqh HB⟩
                    · rw [if_neg c60] at H
                      have c60b0 : (a0 == 13) = false := beq_eq_false_iff_ne.mpr c60
                      have c60b1 : (a0 != 13) = true := bne_iff_ne.mpr c60
                      have H' := Aside0.mk H
                      clear H
                      go_wp2
                      go_meet
                      case rel => exact ⟨_, (0), (by first | rfl | (simp; done) | (simp [*]; done)), H', ⟨by have := HJ3.out; have := HJ29.out; first | omega | exact Nat.le_refl _⟩, sqk BK242, sqk BK243, sqk BK244, sqh HB⟩
              case rest =>
                clear HC57
                try clear c9
                try clear c11
                try clear c24
                try clear c31
                try clear c31b0
                try clear c31b1
                try clear c40
                try clear c42
                try clear c42b0
                try clear c42b1
                try clear hcz15_0
                try clear hcz15_1
                try clear hcz18_0
                try clear hcz18_1
                try clear hcz22_0
                try clear hcz22_1
                try clear hcz29_0
                try clear hcz29_1
                try clear hcz34_0
                try clear hcz34_1
                try clear hcz36_0
                try clear hcz36_1
                try clear hcz39_0
                try clear hcz39_1
                try clear hcz45_0
                try clear hcz45_1
                try clear hcz47_0
                try clear hcz47_1
                try clear hcz48_0
                try clear hcz48_1
                try clear hcz52_0
                try clear hcz52_1
                try clear hcz54_0
                try clear hcz54_1
                try clear hcz56_0
                try clear hcz56_1
                try clear hfz15_0
                try clear hfz15_1
                try clear hfz18_0
                try clear hfz18_1
                try clear hfz22_0
                try clear hfz22_1
                try clear hfz29_0
                try clear hfz29_1
                try clear hfz34_0
                try clear hfz34_1
                try clear hfz36_0
                try clear hfz36_1
                try clear hfz39_0
                try clear hfz39_1
                try clear hfz45_0
                try clear hfz45_1
                try clear hfz47_0
                try clear hfz47_1
                try clear hfz48_0
                try clear hfz48_1
                try clear hfz52_0
                try clear hfz52_1
                try clear hfz54_0
                try clear hfz54_1
                try clear hfz56_0
                try clear hfz56_1
                obtain ⟨kq, x9_56, rfl, HA, HJ56, BK242, BK243, BK244, HB⟩ := hcut
                cases kq with
                | zero => exact absurd HA.out (by simp [impl_RestDo.j2])
                | succ kj56 =>
                  have H := HA.out
                  clear HA
                  simp only [impl_RestDo.j2] at H
                  have HC61 := Aside0.mk H
                  clear H
                  go_upto_if 55 with (fail)
                  go_cut [55] (fun v55 wc => ∃ (kq : Nat) (x55_60 : Bool), v55 = .bool x55_60 ∧ Aside0 (impl_RestDo.j3 kq x9_56 a0 x55_60 a1_0 a1_1 a2_0 a2_1 = some (r1, r2)) ∧ Aside0 (kq ≤ kj56) ∧ Aside0 (wc.heap[gb242]? = some (.cells #[.int .i64 a1_0, .int .i64 a1_1] 26 (0, 0))) ∧ Aside0 (wc.heap[gb243]? = some (.cells #[.int .i64 a2_0, .int .i64 a2_1] 26 (0, 0))) ∧ Aside0 (wc.heap[gb244]? = some (.cells #[.int .i64 0, .int .i64 0] 26 (0, 0))) ∧ Aside0 (Below w.heap.size w wc))
                  case first =>
                    have H := HC61.out
                    clear HC61
                    by_cases c62 : a0 = 1
                    · rw [if_pos c62] at H
                      have c62b0 : (a0 == 1) = true := beq_iff_eq.mpr c62
                      have c62b1 : (a0 != 1) = false := bne_eq_false_iff_eq.mpr c62
                      clear c62
                      (first | rw [c62b0] | (simp only [i64_w, i32_w]; rw [c62b0]) | skip)
                      have H' := Aside0.mk H
                      clear H
                      go_wp2
                      go_meet
                      case rel => exact ⟨_, ((a0 == 1)), (by first | rfl | (simp; done) | (simp [*]; done)), H', ⟨by have := HJ3.out; have := HJ29.out; have := HJ56.out; first | omega | exact Nat.le_refl _⟩, sqk BK242, sqk BK243, sqk BK244, sqh HB⟩
                    · rw [if_neg c62] at H
                      have c62b0 : (a0 == 1) = false := beq_eq_false_iff_ne.mpr c62
                      have c62b1 : (a0 != 1) = true := bne_iff_ne.mpr c62
                      (first | rw [c62b0] | (simp only [i64_w, i32_w]; rw [c62b0]) | skip)
                      have H' := Aside0.mk H
                      clear H
                      go_wp2
                      go_meet
                      case rel => exact ⟨_, ((a0 == 11)), (by first | rfl | (simp; done) | (simp [*]; done)), H', ⟨by have := HJ3.out; have := HJ29.out; have := HJ56.out; first | omega | exact Nat.le_refl _⟩, sqk BK242, sqk BK243, sqk BK244, sqh HB⟩
                  case rest =>
                    clear HC61
                    try clear c9
                    try clear c11
                    try clear c24
                    try clear c31
                    try clear c31b0
                    try clear c31b1
                    try clear c40
                    try clear c42
                    try clear c42b0
                    try clear c42b1
                    try clear c58
                    try clear c58b0
                    try clear c58b1
                    try clear c59
                    try clear c59b0
                    try clear c59b1
                    try clear c60
                    try clear c60b0
                    try clear c60b1
                    try clear hcz15_0
                    try clear hcz15_1
                    try clear hcz18_0
                    try clear hcz18_1
                    try clear hcz22_0
                    try clear hcz22_1
                    try clear hcz29_0
                    try clear hcz29_1
                    try clear hcz34_0
                    try clear hcz34_1
                    try clear hcz36_0
                    try clear hcz36_1
                    try clear hcz39_0
                    try clear hcz39_1
                    try clear hcz45_0
                    try clear hcz45_1
                    try clear hcz47_0
                    try clear hcz47_1
                    try clear hcz48_0
                    try clear hcz48_1
                    try clear hcz52_0
                    try clear hcz52_1
                    try clear hcz54_0
                    try clear hcz54_1
                    try clear hcz56_0
                    try clear hcz56_1
                    try clear hfz15_0
                    try clear hfz15_1
                    try clear hfz18_0
                    try clear hfz18_1
                    try clear hfz22_0
                    try clear hfz22_1
                    try clear hfz29_0
                    try clear hfz29_1
                    try clear hfz34_0
                    try clear hfz34_1
                    try clear hfz36_0
                    try clear hfz36_1
                    try clear hfz39_0
                    try clear hfz39_1
                    try clear hfz45_0
                    try clear hfz45_1
                    try clear hfz47_0
                    try clear hfz47_1
                    try clear hfz48_0
                    try clear hfz48_1
                    try clear hfz52_0
                    try clear hfz52_1
                    try clear hfz54_0
                    try clear hfz54_1
                    try clear hfz56_0
                    try clear hfz56_1
                    obtain ⟨kq, x55_60, rfl, HA, HJ60, BK242, BK243, BK244, HB⟩ := hcut
                    cases kq with
                    | zero => exact absurd HA.out (by simp [impl_RestDo.j3])
                    | succ kj60 =>
                      have H := HA.out
                      clear HA
                      simp only [impl_RestDo.j3] at H
                      by_cases c63 : x55_60 = true
                      · subst c63
                        have H1 : ((impl_restGcd.f kj60 (([a1_0, a2_0, x9_56] : List Int))).bind fun t257 => ((impl_restOf.f kj60 (wrap64 (a1_1 + a2_1)) t257).bind fun bt258 => (some (bt258.1, bt258.2)))) = some (r1, r2) := by rw [if_pos rfl] at H; exact H
                        clear H
                        have H := H1
                        clear H1
                        obtain ⟨y254, hy254⟩ : ∃ y_ : List Int, y_ = (([a1_0, a2_0, x9_56] : List Int)) := ⟨_, rfl⟩
                        replace H : ((impl_restGcd.f kj60 y254).bind fun t257 => ((impl_restOf.f kj60 (wrap64 (a1_1 + a2_1)) t257).bind fun bt258 => (some (bt258.1, bt258.2)))) = some (r1, r2) := by first | (rw [hy254]; with_reducible exact H) | (have H2_ := (Option.bind_some _ _).symm.trans H; rw [hy254]; with_reducible exact H2_) | (have H2_ := (Option.bind_some _ _).symm.trans H; with_reducible exact H2_) | with_reducible exact H | (rw [hy254]; exact H) | exact H
                        have Ny254 := Aside0.mk hy254
                        clear hy254
                        replace H := Option.bind_eq_some_iff.mp H
                        obtain ⟨t257, A640, H⟩ := H
                        replace H : ((impl_restOf.f kj60 (wrap64 (a1_1 + a2_1)) t257).bind fun bt258 => (some (bt258.1, bt258.2))) = some (r1, r2) := H
                        have A64 := Aside0.mk A640
                        clear A640
                        replace H := Option.bind_eq_some_iff.mp H
                        obtain ⟨⟨t258, t259⟩, A650, H⟩ := H
                        replace H : (some (t258, t259)) = some (r1, r2) := H
                        have A65 := Aside0.mk A650
                        clear A650
                        simp only [Option.some.injEq, Prod.mk.injEq] at H
                        obtain ⟨rfl, rfl⟩ := H
                        try go_wp2
                        replace BK242 := Aside0.mk (blk_drew BK242.out)
                        replace BK243 := Aside0.mk (blk_drew BK243.out)
                        replace BK244 := Aside0.mk (blk_drew BK244.out)
                        replace HB := Aside0.mk (below_drew1 HB.out)
                        refine start_ (n := 14) (S := fun w' => w'.cell? ⟨gb242, 0, none⟩ = some (.int .i64 a1_0) ∧ w'.cell? ⟨gb242, 1, none⟩ = some (.int .i64 a1_1) ∧ w'.cell? ⟨gb243, 0, none⟩ = some (.int .i64 a2_0) ∧ w'.cell? ⟨gb243, 1, none⟩ = some (.int .i64 a2_1)) (ds := []) #[false, false, false, false, false, false, false, false, false, false, false, false, false, false] (by kernel_rfl) rfl rfl ⟨(blk_cell BK242.out 0).trans rfl, (blk_cell BK242.out 1).trans rfl, (blk_cell BK243.out 0).trans rfl, (blk_cell BK243.out 1).trans rfl⟩ (fun hHeld => ?_); refine with_tabW impl_RestDo.tab17 impl_RestDo.bits17 (fun HT_ HW_ => ?_)
                        generalize wc.drew = w66 at BK242 BK243 BK244 HB hHeld ⊢
                        refine sqp HT_ 0 58 ?_
                        refine sqp HT_ 2 60 ?_
                        refine sqp HT_ 5 63 ?_
                        refine sqp HT_ 7 65 ?_
                        refine sqp HT_ 9 67 ?_
                        refine sqw HT_ HW_ 1 59 hHeld ?_
                        refine sqw HT_ HW_ 3 61 hHeld ?_
                        refine sqp HT_ 4 62 ?_
                        refine sqw HT_ HW_ 6 64 hHeld ?_
                        refine sqw HT_ HW_ 8 66 hHeld ?_
                        refine sqo HT_ 10 68 (fun K hK => ?_)
                        refine Kd.R_lit_step (Kd.int .i64) _ 3 ?hg (N := 68) ?hd (xs := ([a1_0, a2_0, x9_56] : List Int)) (inner := [.int .i64 a1_0, .int .i64 a2_0, .int .i64 x9_56]) (ok := fun _ => True) (okp := fun _ => True) ?hr ?hp (fun _ hk => hk) trivial (Below.refl _ _) (Nat.le_refl _) (by simp) ?_; (case hd => rfl); (case hg => rfl); (case hr => first | (go_simp; done) | (go_simp; rfl)); (case hp => exact (Reps.one (show Kd.M (Kd.int .i64) _ _ _ a1_0 [.int .i64 a1_0] from rfl) (Reps.one (show Kd.M (Kd.int .i64) _ _ _ a2_0 [.int .i64 a2_0] from rfl) (Reps.one (show Kd.M (Kd.int .i64) _ _ _ x9_56 [.int .i64 x9_56] from rfl) (Reps.none _ _)))))
                        intro v255 w67 ho68 hb hg_ hnew_
                        clear hg_ hnew_
                        (first | rw [← Ny254.out] at ho68 | (simp only [Int.reduceToNat] at ho68; rw [← Ny254.out] at ho68))
                        have HO256 := Aside0.mk (Kd.R_lower ho68 (below_size (by repeat (first | (with_reducible first | exact HB.out | apply below_alloc | apply pw_below_drewN | apply below_drew1 | refine below_set ?_ GE242.out | refine below_set ?_ GE243.out | refine below_set ?_ GE244.out) | exact HB.out))))
                        replace BK242 := sqb BK242 hb
                        replace BK243 := sqb BK243 hb
                        replace BK244 := sqb BK244 hb
                        replace HB := sqs HB hb
                        clear hb ho68
                        obtain ⟨Ao69, co69, eo69⟩ := Kd.R_slice HO256.out
                        (first | subst eo69 | (injection eo69 with f1_ f2_ f3_; have f4_ := f1_.symm; have f5_ := f3_.symm; clear f1_ f2_ f3_; subst f4_; subst f5_))
                        refine hK.out _ _ sqz (fun hHeld => ?_)
                        clear hK K
                        refine sqnm ?_
                        refine sqo HT_ 11 69 (fun K hK => ?_)
                        refine sqG Try.func152 #[.slice Ao69 y254.length co69] ?_
                        with_reducible refine (impl_restGcd.calls kj60 _ _ y254 t257 _ ?side1 ?side2 A64.out).mono ?_
                        (case side1 => repeat (first | exact (Kd.R_reads' HO256.out).2.2 | (with_reducible refine Kd.C_alloc ?_ _) | (with_reducible refine Kd.C_drewN ?_ _) | (with_reducible refine Kd.C_drew ?_)))
                        (case side2 => exact (Kd.R_reads' HO256.out).2.1)
                        rintro e w' ⟨rfl, ⟨nd, rfl⟩⟩
                        refine ⟨_, rfl, ?_⟩
                        refine hK.out _ _ sqz (fun hHeld => ?_)
                        clear hK K
                        refine sqnm ?_
                        refine sqo HT_ 12 70 (fun K hK => ?_)
                        refine sqG Try.func151 #[.int .i64 (wrap64 (a1_1 + a2_1)), .int .i64 t257] ?_
                        with_reducible refine (impl_restOf.calls kj60 (wrap64 (a1_1 + a2_1)) t257 t258 t259 _ A65.out).mono ?_
                        rintro e w70 ⟨rfl, hb⟩
                        refine ⟨_, rfl, ?_⟩
                        have n0_ := Aside0.mk (Kd.R_below (by (with_reducible repeat (first | apply Kd.R_alloc | apply Kd.R_drewN | apply Kd.R_drew)); exact HO256.out) hb)
                        have n1_ := sqb BK242 hb
                        have n2_ := sqb BK243 hb
                        have n3_ := sqb BK244 hb
                        have n4_ := sqs HB hb
                        clear HO256
                        clear BK242
                        clear BK243
                        clear BK244
                        clear HB
                        have HO256 := n0_
                        have BK242 := n1_
                        have BK243 := n2_
                        have BK244 := n3_
                        have HB := n4_
                        clear n0_ n1_ n2_ n3_ n4_
                        (try clear hb)
                        refine hK.out _ _ sqz (fun hHeld => ?_)
                        clear hK K
                        refine sqnm ?_
                        refine one_ (i := 13) (N := none) #[true, true, true, true, true, true, true, true, true, true, true, true, true, true] rfl rfl (one_of HT_.out (by kernel_rfl)) (by decide) (fun K hK => ?_)
                        have hs71 : w70.cell? ⟨gb244, 0, none⟩ = some (.int .i64 0) := (blk_cell BK244.out 0).trans rfl
                        have hfs71 := blk_frozen BK244.out 0
                        have hns71_0 := NB242_244.out
                        have hns71_1 := NB243_244.out
                        have hms71_0 := NB244_242.out
                        have hms71_1 := NB244_243.out
                        have hs72 : w70.cell? ⟨gb244, 1, none⟩ = some (.int .i64 0) := (blk_cell BK244.out 1).trans rfl
                        have hfs72 := blk_frozen BK244.out 1
                        have hns72_0 := NB242_244.out
                        have hns72_1 := NB243_244.out
                        have hms72_0 := NB244_242.out
                        have hms72_1 := NB244_243.out
                        refine skip_ (w1 := ?_) (by rfl) rfl ?_ ?_
                        rotate_left
                        · go_simp
                          rfl
                        refine hK.out _ _ ⟨((cell_far (p := ⟨gb244, _, none⟩) NB242_244.out _).trans (((cell_far (p := ⟨gb244, _, none⟩) NB242_244.out _).trans (hHeld.1)))), ((cell_far (p := ⟨gb244, _, none⟩) NB242_244.out _).trans (((cell_far (p := ⟨gb244, _, none⟩) NB242_244.out _).trans (hHeld.2.1)))), ((cell_far (p := ⟨gb244, _, none⟩) NB243_244.out _).trans (((cell_far (p := ⟨gb244, _, none⟩) NB243_244.out _).trans (hHeld.2.2.1)))), ((cell_far (p := ⟨gb244, _, none⟩) NB243_244.out _).trans (((cell_far (p := ⟨gb244, _, none⟩) NB243_244.out _).trans (hHeld.2.2.2))))⟩ (fun hHeld => ?_)
                        clear hK K
                        refine done_ (done_of HT_.out (by kernel_rfl)) ?_
                        try go_wp2
                        refine bodyPost_ret (results_cell_row rfl _ _ gb244 26 #[.int .i64 t258, .int .i64 t259] (0, 0) _ rfl (by refine sqt ?_; refine blk_put (cs := #[.int .i64 t258, .int .i64 0]) ?_ 1 _ rfl; refine sqt ?_; refine blk_put (cs := #[.int .i64 0, .int .i64 0]) ?_ 0 _ rfl; refine sqt ?_; exact BK244.out) Try.underlying26 rfl (by kernel_rfl)) rfl ?_
                        exact sqe HB
                      · replace c63 := Bool.eq_false_iff.mpr c63
                        subst c63
                        have H1 : (if a0 = 2 then (impl_RestDo.j4 kj60 x9_56 a0 (a0 == 2) a1_0 a1_1 a2_0 a2_1) else (impl_RestDo.j4 kj60 x9_56 a0 (a0 == 12) a1_0 a1_1 a2_0 a2_1)) = some (r1, r2) := by rw [if_neg (show ¬ (false = true) by decide)] at H; exact H
                        clear H
                        have H := H1
                        clear H1
                        have HC73 := Aside0.mk H
                        clear H
                        go_upto_if 71 with (fail)
                        go_cut [71] (fun v71 wc => ∃ (kq : Nat) (x71_72 : Bool), v71 = .bool x71_72 ∧ Aside0 (impl_RestDo.j4 kq x9_56 a0 x71_72 a1_0 a1_1 a2_0 a2_1 = some (r1, r2)) ∧ Aside0 (kq ≤ kj60) ∧ Aside0 (wc.heap[gb242]? = some (.cells #[.int .i64 a1_0, .int .i64 a1_1] 26 (0, 0))) ∧ Aside0 (wc.heap[gb243]? = some (.cells #[.int .i64 a2_0, .int .i64 a2_1] 26 (0, 0))) ∧ Aside0 (wc.heap[gb244]? = some (.cells #[.int .i64 0, .int .i64 0] 26 (0, 0))) ∧ Aside0 (Below w.heap.size w wc))
                        case first =>
                          have H := HC73.out
                          clear HC73
                          by_cases c74 : a0 = 2
                          · rw [if_pos c74] at H
                            have c74b0 : (a0 == 2) = true := beq_iff_eq.mpr c74
                            have c74b1 : (a0 != 2) = false := bne_eq_false_iff_eq.mpr c74
                            clear c74
                            (first | rw [c74b0] | (simp only [i64_w, i32_w]; rw [c74b0]) | skip)
                            have H' := Aside0.mk H
                            clear H
                            go_wp2
                            go_meet
                            case rel => exact ⟨_, ((a0 == 2)), (by first | rfl | (simp; done) | (simp [*]; done)), H', ⟨by have := HJ3.out; have := HJ29.out; have := HJ56.out; have := HJ60.out; first | omega | exact Nat.le_refl _⟩, sqk BK242, sqk BK243, sqk BK244, sqh HB⟩
                          · rw [if_neg c74] at H
                            have c74b0 : (a0 == 2) = false := beq_eq_false_iff_ne.mpr c74
                            have c74b1 : (a0 != 2) = true := bne_iff_ne.mpr c74
                            (first | rw [c74b0] | (simp only [i64_w, i32_w]; rw [c74b0]) | skip)
                            have H' := Aside0.mk H
                            clear H
                            go_wp2
                            go_meet
                            case rel => exact ⟨_, ((a0 == 12)), (by first | rfl | (simp; done) | (simp [*]; done)), H', ⟨by have := HJ3.out; have := HJ29.out; have := HJ56.out; have := HJ60.out; first | omega | exact Nat.le_refl _⟩, sqk BK242, sqk BK243, sqk BK244, sqh HB⟩
                        case rest =>
                          clear HC73
                          try clear c9
                          try clear c11
                          try clear c24
                          try clear c31
                          try clear c31b0
                          try clear c31b1
                          try clear c40
                          try clear c42
                          try clear c42b0
                          try clear c42b1
                          try clear c58
                          try clear c58b0
                          try clear c58b1
                          try clear c59
                          try clear c59b0
                          try clear c59b1
                          try clear c60
                          try clear c60b0
                          try clear c60b1
                          try clear c62
                          try clear c62b0
                          try clear c62b1
                          try clear c63
                          try clear hcz15_0
                          try clear hcz15_1
                          try clear hcz18_0
                          try clear hcz18_1
                          try clear hcz22_0
                          try clear hcz22_1
                          try clear hcz29_0
                          try clear hcz29_1
                          try clear hcz34_0
                          try clear hcz34_1
                          try clear hcz36_0
                          try clear hcz36_1
                          try clear hcz39_0
                          try clear hcz39_1
                          try clear hcz45_0
                          try clear hcz45_1
                          try clear hcz47_0
                          try clear hcz47_1
                          try clear hcz48_0
                          try clear hcz48_1
                          try clear hcz52_0
                          try clear hcz52_1
                          try clear hcz54_0
                          try clear hcz54_1
                          try clear hcz56_0
                          try clear hcz56_1
                          try clear hfz15_0
                          try clear hfz15_1
                          try clear hfz18_0
                          try clear hfz18_1
                          try clear hfz22_0
                          try clear hfz22_1
                          try clear hfz29_0
                          try clear hfz29_1
                          try clear hfz34_0
                          try clear hfz34_1
                          try clear hfz36_0
                          try clear hfz36_1
                          try clear hfz39_0
                          try clear hfz39_1
                          try clear hfz45_0
                          try clear hfz45_1
                          try clear hfz47_0
                          try clear hfz47_1
                          try clear hfz48_0
                          try clear hfz48_1
                          try clear hfz52_0
                          try clear hfz52_1
                          try clear hfz54_0
                          try clear hfz54_1
                          try clear hfz56_0
                          try clear hfz56_1
                          obtain ⟨kq, x71_72, rfl, HA, HJ72, BK242, BK243, BK244, HB⟩ := hcut
                          cases kq with
                          | zero => exact absurd HA.out (by simp [impl_RestDo.j4])
                          | succ kj72 =>
                            have H := HA.out
                            clear HA
                            simp only [impl_RestDo.j4] at H
                            by_cases c75 : x71_72 = true
                            · subst c75
                              have H1 : ((impl_restGcd.f kj72 (([a1_0, a2_0, x9_56] : List Int))).bind fun t263 => ((impl_restOf.f kj72 (wrap64 (a1_1 - a2_1)) t263).bind fun bt264 => (some (bt264.1, bt264.2)))) = some (r1, r2) := by rw [if_pos rfl] at H; exact H
                              clear H
                              have H := H1
                              clear H1
                              obtain ⟨y260, hy260⟩ : ∃ y_ : List Int, y_ = (([a1_0, a2_0, x9_56] : List Int)) := ⟨_, rfl⟩
                              replace H : ((impl_restGcd.f kj72 y260).bind fun t263 => ((impl_restOf.f kj72 (wrap64 (a1_1 - a2_1)) t263).bind fun bt264 => (some (bt264.1, bt264.2)))) = some (r1, r2) := by first | (rw [hy260]; with_reducible exact H) | (have H2_ := (Option.bind_some _ _).symm.trans H; rw [hy260]; with_reducible exact H2_) | (have H2_ := (Option.bind_some _ _).symm.trans H; with_reducible exact H2_) | with_reducible exact H | (rw [hy260]; exact H) | exact H
                              have Ny260 := Aside0.mk hy260
                              clear hy260
                              replace H := Option.bind_eq_some_iff.mp H
                              obtain ⟨t263, A760, H⟩ := H
                              replace H : ((impl_restOf.f kj72 (wrap64 (a1_1 - a2_1)) t263).bind fun bt264 => (some (bt264.1, bt264.2))) = some (r1, r2) := H
                              have A76 := Aside0.mk A760
                              clear A760
                              replace H := Option.bind_eq_some_iff.mp H
                              obtain ⟨⟨t264, t265⟩, A770, H⟩ := H
                              replace H : (some (t264, t265)) = some (r1, r2) := H
                              have A77 := Aside0.mk A770
                              clear A770
                              simp only [Option.some.injEq, Prod.mk.injEq] at H
                              obtain ⟨rfl, rfl⟩ := H
                              try go_wp2
                              replace BK242 := Aside0.mk (blk_drew BK242.out)
                              replace BK243 := Aside0.mk (blk_drew BK243.out)
                              replace BK244 := Aside0.mk (blk_drew BK244.out)
                              replace HB := Aside0.mk (below_drew1 HB.out)
                              refine start_ (n := 14) (S := fun w' => w'.cell? ⟨gb242, 0, none⟩ = some (.int .i64 a1_0) ∧ w'.cell? ⟨gb242, 1, none⟩ = some (.int .i64 a1_1) ∧ w'.cell? ⟨gb243, 0, none⟩ = some (.int .i64 a2_0) ∧ w'.cell? ⟨gb243, 1, none⟩ = some (.int .i64 a2_1)) (ds := []) #[false, false, false, false, false, false, false, false, false, false, false, false, false, false] (by kernel_rfl) rfl rfl ⟨(blk_cell BK242.out 0).trans rfl, (blk_cell BK242.out 1).trans rfl, (blk_cell BK243.out 0).trans rfl, (blk_cell BK243.out 1).trans rfl⟩ (fun hHeld => ?_); refine with_tabW impl_RestDo.tab20 impl_RestDo.bits20 (fun HT_ HW_ => ?_)
                              generalize wc.drew = w78 at BK242 BK243 BK244 HB hHeld ⊢
                              refine sqp HT_ 0 74 ?_
                              refine sqp HT_ 2 76 ?_
                              refine sqp HT_ 5 79 ?_
                              refine sqp HT_ 7 81 ?_
                              refine sqp HT_ 9 83 ?_
                              refine sqw HT_ HW_ 1 75 hHeld ?_
                              refine sqw HT_ HW_ 3 77 hHeld ?_
                              refine sqp HT_ 4 78 ?_
                              refine sqw HT_ HW_ 6 80 hHeld ?_
                              refine sqw HT_ HW_ 8 82 hHeld ?_
                              refine sqo HT_ 10 84 (fun K hK => ?_)
                              refine Kd.R_lit_step (Kd.int .i64) _ 3 ?hg (N := 84) ?hd (xs := ([a1_0, a2_0, x9_56] : List Int)) (inner := [.int .i64 a1_0, .int .i64 a2_0, .int .i64 x9_56]) (ok := fun _ => True) (okp := fun _ => True) ?hr ?hp (fun _ hk => hk) trivial (Below.refl _ _) (Nat.le_refl _) (by simp) ?_; (case hd => rfl); (case hg => rfl); (case hr => first | (go_simp; done) | (go_simp; rfl)); (case hp => exact (Reps.one (show Kd.M (Kd.int .i64) _ _ _ a1_0 [.int .i64 a1_0] from rfl) (Reps.one (show Kd.M (Kd.int .i64) _ _ _ a2_0 [.int .i64 a2_0] from rfl) (Reps.one (show Kd.M (Kd.int .i64) _ _ _ x9_56 [.int .i64 x9_56] from rfl) (Reps.none _ _)))))
                              intro v261 w79 ho80 hb hg_ hnew_
                              clear hg_ hnew_
                              (first | rw [← Ny260.out] at ho80 | (simp only [Int.reduceToNat] at ho80; rw [← Ny260.out] at ho80))
                              have HO262 := Aside0.mk (Kd.R_lower ho80 (below_size (by repeat (first | (with_reducible first | exact HB.out | apply below_alloc | apply pw_below_drewN | apply below_drew1 | refine below_set ?_ GE242.out | refine below_set ?_ GE243.out | refine below_set ?_ GE244.out) | exact HB.out))))
                              replace BK242 := sqb BK242 hb
                              replace BK243 := sqb BK243 hb
                              replace BK244 := sqb BK244 hb
                              replace HB := sqs HB hb
                              clear hb ho80
                              obtain ⟨Ao81, co81, eo81⟩ := Kd.R_slice HO262.out
                              (first | subst eo81 | (injection eo81 with f1_ f2_ f3_; have f4_ := f1_.symm; have f5_ := f3_.symm; clear f1_ f2_ f3_; subst f4_; subst f5_))
                              refine hK.out _ _ sqz (fun hHeld => ?_)
                              clear hK K
                              refine sqnm ?_
                              refine sqo HT_ 11 85 (fun K hK => ?_)
                              refine sqG Try.func152 #[.slice Ao81 y260.length co81] ?_
                              with_reducible refine (impl_restGcd.calls kj72 _ _ y260 t263 _ ?side1 ?side2 A76.out).mono ?_
                              (case side1 => repeat (first | exact (Kd.R_reads' HO262.out).2.2 | (with_reducible refine Kd.C_alloc ?_ _) | (with_reducible refine Kd.C_drewN ?_ _) | (with_reducible refine Kd.C_drew ?_)))
                              (case side2 => exact (Kd.R_reads' HO262.out).2.1)
                              rintro e w' ⟨rfl, ⟨nd, rfl⟩⟩
                              refine ⟨_, rfl, ?_⟩
                              refine hK.out _ _ sqz (fun hHeld => ?_)
                              clear hK K
                              refine sqnm ?_
                              refine sqo HT_ 12 86 (fun K hK => ?_)
                              refine sqG Try.func151 #[.int .i64 (wrap64 (a1_1 - a2_1)), .int .i64 t263] ?_
                              with_reducible refine (impl_restOf.calls kj72 (wrap64 (a1_1 - a2_1)) t263 t264 t265 _ A77.out).mono ?_
                              rintro e w82 ⟨rfl, hb⟩
                              refine ⟨_, rfl, ?_⟩
                              have n0_ := Aside0.mk (Kd.R_below (by (with_reducible repeat (first | apply Kd.R_alloc | apply Kd.R_drewN | apply Kd.R_drew)); exact HO262.out) hb)
                              have n1_ := sqb BK242 hb
                              have n2_ := sqb BK243 hb
                              have n3_ := sqb BK244 hb
                              have n4_ := sqs HB hb
                              clear HO262
                              clear BK242
                              clear BK243
                              clear BK244
                              clear HB
                              have HO262 := n0_
                              have BK242 := n1_
                              have BK243 := n2_
                              have BK244 := n3_
                              have HB := n4_
                              clear n0_ n1_ n2_ n3_ n4_
                              (try clear hb)
                              refine hK.out _ _ sqz (fun hHeld => ?_)
                              clear hK K
                              refine sqnm ?_
                              refine one_ (i := 13) (N := none) #[true, true, true, true, true, true, true, true, true, true, true, true, true, true] rfl rfl (one_of HT_.out (by kernel_rfl)) (by decide) (fun K hK => ?_)
                              have hs83 : w82.cell? ⟨gb244, 0, none⟩ = some (.int .i64 0) := (blk_cell BK244.out 0).trans rfl
                              have hfs83 := blk_frozen BK244.out 0
                              have hns83_0 := NB242_244.out
                              have hns83_1 := NB243_244.out
                              have hms83_0 := NB244_242.out
                              have hms83_1 := NB244_243.out
                              have hs84 : w82.cell? ⟨gb244, 1, none⟩ = some (.int .i64 0) := (blk_cell BK244.out 1).trans rfl
                              have hfs84 := blk_frozen BK244.out 1
                              have hns84_0 := NB242_244.out
                              have hns84_1 := NB243_244.out
                              have hms84_0 := NB244_242.out
                              have hms84_1 := NB244_243.out
                              refine skip_ (w1 := ?_) (by rfl) rfl ?_ ?_
                              rotate_left
                              · go_simp
                                rfl
                              refine hK.out _ _ ⟨((cell_far (p := ⟨gb244, _, none⟩) NB242_244.out _).trans (((cell_far (p := ⟨gb244, _, none⟩) NB242_244.out _).trans (hHeld.1)))), ((cell_far (p := ⟨gb244, _, none⟩) NB242_244.out _).trans (((cell_far (p := ⟨gb244, _, none⟩) NB242_244.out _).trans (hHeld.2.1)))), ((cell_far (p := ⟨gb244, _, none⟩) NB243_244.out _).trans (((cell_far (p := ⟨gb244, _, none⟩) NB243_244.out _).trans (hHeld.2.2.1)))), ((cell_far (p := ⟨gb244, _, none⟩) NB243_244.out _).trans (((cell_far (p := ⟨gb244, _, none⟩) NB243_244.out _).trans (hHeld.2.2.2))))⟩ (fun hHeld => ?_)
                              clear hK K
                              refine done_ (done_of HT_.out (by kernel_rfl)) ?_
                              try go_wp2
                              refine bodyPost_ret (results_cell_row rfl _ _ gb244 26 #[.int .i64 t264, .int .i64 t265] (0, 0) _ rfl (by refine sqt ?_; refine blk_put (cs := #[.int .i64 t264, .int .i64 0]) ?_ 1 _ rfl; refine sqt ?_; refine blk_put (cs := #[.int .i64 0, .int .i64 0]) ?_ 0 _ rfl; refine sqt ?_; exact BK244.out) Try.underlying26 rfl (by kernel_rfl)) rfl ?_
                              exact sqe HB
                            · replace c75 := Bool.eq_false_iff.mpr c75
                              subst c75
                              have H1 : (if a0 = 3 then (impl_RestDo.j5 kj72 x9_56 a0 (a0 == 3) a1_0 a1_1 a2_0 a2_1) else (impl_RestDo.j5 kj72 x9_56 a0 (a0 == 13) a1_0 a1_1 a2_0 a2_1)) = some (r1, r2) := by rw [if_neg (show ¬ (false = true) by decide)] at H; exact H
                              clear H
                              have H := H1
                              clear H1
                              have HC85 := Aside0.mk H
                              clear H
                              go_upto_if 87 with (fail)
                              go_cut [87] (fun v87 wc => ∃ (kq : Nat) (x87_84 : Bool), v87 = .bool x87_84 ∧ Aside0 (impl_RestDo.j5 kq x9_56 a0 x87_84 a1_0 a1_1 a2_0 a2_1 = some (r1, r2)) ∧ Aside0 (kq ≤ kj72) ∧ Aside0 (wc.heap[gb242]? = some (.cells #[.int .i64 a1_0, .int .i64 a1_1] 26 (0, 0))) ∧ Aside0 (wc.heap[gb243]? = some (.cells #[.int .i64 a2_0, .int .i64 a2_1] 26 (0, 0))) ∧ Aside0 (wc.heap[gb244]? = some (.cells #[.int .i64 0, .int .i64 0] 26 (0, 0))) ∧ Aside0 (Below w.heap.size w wc))
                              case first =>
                                have H := HC85.out
                                clear HC85
                                by_cases c86 : a0 = 3
                                · rw [if_pos c86] at H
                                  have c86b0 : (a0 == 3) = true := beq_iff_eq.mpr c86
                                  have c86b1 : (a0 != 3) = false := bne_eq_false_iff_eq.mpr c86
                                  clear c86
                                  (first | rw [c86b0] | (simp only [i64_w, i32_w]; rw [c86b0]) | skip)
                                  have H' := Aside0.mk H
                                  clear H
                                  go_wp2
                                  go_meet
                                  case rel => exact ⟨_, ((a0 == 3)), (by first | rfl | (simp; done) | (simp [*]; done)), H', ⟨by have := HJ3.out; have := HJ29.out; have := HJ56.out; have := HJ60.out; have := HJ72.out; first | omega | exact Nat.le_refl _⟩, sqk BK242, sqk BK243, sqk BK244, sqh HB⟩
                                · rw [if_neg c86] at H
                                  have c86b0 : (a0 == 3) = false := beq_eq_false_iff_ne.mpr c86
                                  have c86b1 : (a0 != 3) = true := bne_iff_ne.mpr c86
                                  (first | rw [c86b0] | (simp only [i64_w, i32_w]; rw [c86b0]) | skip)
                                  have H' := Aside0.mk H
                                  clear H
                                  go_wp2
                                  go_meet
                                  case rel => exact ⟨_, ((a0 == 13)), (by first | rfl | (simp; done) | (simp [*]; done)), H', ⟨by have := HJ3.out; have := HJ29.out; have := HJ56.out; have := HJ60.out; have := HJ72.out; first | omega | exact Nat.le_refl _⟩, sqk BK242, sqk BK243, sqk BK244, sqh HB⟩
                              case rest =>
                                clear HC85
                                try clear c9
                                try clear c11
                                try clear c24
                                try clear c31
                                try clear c31b0
                                try clear c31b1
                                try clear c40
                                try clear c42
                                try clear c42b0
                                try clear c42b1
                                try clear c58
                                try clear c58b0
                                try clear c58b1
                                try clear c59
                                try clear c59b0
                                try clear c59b1
                                try clear c60
                                try clear c60b0
                                try clear c60b1
                                try clear c62
                                try clear c62b0
                                try clear c62b1
                                try clear c63
                                try clear c74
                                try clear c74b0
                                try clear c74b1
                                try clear c75
                                try clear hcz15_0
                                try clear hcz15_1
                                try clear hcz18_0
                                try clear hcz18_1
                                try clear hcz22_0
                                try clear hcz22_1
                                try clear hcz29_0
                                try clear hcz29_1
                                try clear hcz34_0
                                try clear hcz34_1
                                try clear hcz36_0
                                try clear hcz36_1
                                try clear hcz39_0
                                try clear hcz39_1
                                try clear hcz45_0
                                try clear hcz45_1
                                try clear hcz47_0
                                try clear hcz47_1
                                try clear hcz48_0
                                try clear hcz48_1
                                try clear hcz52_0
                                try clear hcz52_1
                                try clear hcz54_0
                                try clear hcz54_1
                                try clear hcz56_0
                                try clear hcz56_1
                                try clear hfz15_0
                                try clear hfz15_1
                                try clear hfz18_0
                                try clear hfz18_1
                                try clear hfz22_0
                                try clear hfz22_1
                                try clear hfz29_0
                                try clear hfz29_1
                                try clear hfz34_0
                                try clear hfz34_1
                                try clear hfz36_0
                                try clear hfz36_1
                                try clear hfz39_0
                                try clear hfz39_1
                                try clear hfz45_0
                                try clear hfz45_1
                                try clear hfz47_0
                                try clear hfz47_1
                                try clear hfz48_0
                                try clear hfz48_1
                                try clear hfz52_0
                                try clear hfz52_1
                                try clear hfz54_0
                                try clear hfz54_1
                                try clear hfz56_0
                                try clear hfz56_1
                                obtain ⟨kq, x87_84, rfl, HA, HJ84, BK242, BK243, BK244, HB⟩ := hcut
                                cases kq with
                                | zero => exact absurd HA.out (by simp [impl_RestDo.j5])
                                | succ kj84 =>
                                  have H := HA.out
                                  clear HA
                                  simp only [impl_RestDo.j5] at H
                                  by_cases c87 : x87_84 = true
                                  · subst c87
                                    have H1 : ((impl_restGcd.f kj84 (([wrap64 (a1_0 * a2_0), wrap64 (a1_0 * a2_1), wrap64 (a2_0 * a1_1)] : List Int))).bind fun t269 => (if t269 = 0 then (some (0, 0)) else ((impl_restGcd.f kj84 (([t269, x9_56] : List Int))).bind fun t273 => ((impl_restOf.f kj84 (wrap64 (a1_1 * a2_1)) t273).bind fun bt274 => (some (bt274.1, bt274.2)))))) = some (r1, r2) := by rw [if_pos rfl] at H; exact H
                                    clear H
                                    have H := H1
                                    clear H1
                                    obtain ⟨y266, hy266⟩ : ∃ y_ : List Int, y_ = (([wrap64 (a1_0 * a2_0), wrap64 (a1_0 * a2_1), wrap64 (a2_0 * a1_1)] : List Int)) := ⟨_, rfl⟩
                                    replace H : ((impl_restGcd.f kj84 y266).bind fun t269 => (if t269 = 0 then (some (0, 0)) else ((impl_restGcd.f kj84 (([t269, x9_56] : List Int))).bind fun t273 => ((impl_restOf.f kj84 (wrap64 (a1_1 * a2_1)) t273).bind fun bt274 => (some (bt274.1, bt274.2)))))) = some (r1, r2) := by first | (rw [hy266]; with_reducible exact H) | (have H2_ := (Option.bind_some _ _).symm.trans H; rw [hy266]; with_reducible exact H2_) | (have H2_ := (Option.bind_some _ _).symm.trans H; with_reducible exact H2_) | with_reducible exact H | (rw [hy266]; exact H) | exact H
                                    have Ny266 := Aside0.mk hy266
                                    clear hy266
                                    replace H := Option.bind_eq_some_iff.mp H
                                    obtain ⟨t269, A880, H⟩ := H
                                    replace H : (if t269 = 0 then (some (0, 0)) else ((impl_restGcd.f kj84 (([t269, x9_56] : List Int))).bind fun t273 => ((impl_restOf.f kj84 (wrap64 (a1_1 * a2_1)) t273).bind fun bt274 => (some (bt274.1, bt274.2))))) = some (r1, r2) := H
                                    have A88 := Aside0.mk A880
                                    clear A880
                                    by_cases c89 : t269 = 0
                                    · rw [if_pos c89] at H
                                      have c89b0 : (t269 == 0) = true := beq_iff_eq.mpr c89
                                      have c89b1 : (t269 != 0) = false := bne_eq_false_iff_eq.mpr c89
                                      clear c89
                                      simp only [Option.some.injEq, Prod.mk.injEq] at H
                                      obtain ⟨rfl, rfl⟩ := H
                                      have hnb90 := NB242_243.out
                                      have hnc90 := NB243_242.out
                                      have hnb91 := NB242_244.out
                                      have hnc91 := NB244_242.out
                                      obtain ⟨hcz92_0, hcz92_1, hfz92_0, hfz92_1⟩ := sqc2 BK242
                                      have hnb93 := NB243_244.out
                                      have hnc93 := NB244_243.out
                                      obtain ⟨hcz94_0, hcz94_1, hfz94_0, hfz94_1⟩ := sqc2 BK243
                                      go_wp2_with (first | ((with_reducible refine gate_dst (N := 105) rfl ?_); refine Kd.R_lit (Kd.int .i64) _ 3 ?hg (N := 105) ?hd (xs := ([wrap64 (a1_0 * a2_0), wrap64 (a1_0 * a2_1), wrap64 (a2_0 * a1_1)] : List Int)) (inner := [.int .i64 (wrap64 (a1_0 * a2_0)), .int .i64 (wrap64 (a1_0 * a2_1)), .int .i64 (wrap64 (a2_0 * a1_1))]) (ok := fun _ => True) (okp := fun _ => True) ?hr ?hp (fun _ hk => hk) trivial (Below.refl _ _) (Nat.le_refl _) (by simp) ?_; (case hd => rfl); (case hg => rfl); (case hr => first | (go_simp; done) | (go_simp; rfl)); (case hp => exact (Reps.one (show Kd.M (Kd.int .i64) _ _ _ (wrap64 (a1_0 * a2_0)) [.int .i64 (wrap64 (a1_0 * a2_0))] from rfl) (Reps.one (show Kd.M (Kd.int .i64) _ _ _ (wrap64 (a1_0 * a2_1)) [.int .i64 (wrap64 (a1_0 * a2_1))] from rfl) (Reps.one (show Kd.M (Kd.int .i64) _ _ _ (wrap64 (a2_0 * a1_1)) [.int .i64 (wrap64 (a2_0 * a1_1))] from rfl) (Reps.none _ _))))); intro v267 w95 ho96 hb hg_ hnew_; clear hg_ hnew_; (first | rw [← Ny266.out] at ho96 | (simp only [Int.reduceToNat] at ho96; rw [← Ny266.out] at ho96)); have HO268 := Aside0.mk (Kd.R_lower ho96 (below_size (by repeat (first | (with_reducible first | exact HB.out | apply below_alloc | apply pw_below_drewN | apply below_drew1 | refine below_set ?_ GE242.out | refine below_set ?_ GE243.out | refine below_set ?_ GE244.out) | exact HB.out)))); replace BK242 := sqb BK242 hb; replace BK243 := sqb BK243 hb; replace BK244 := sqb BK244 hb; replace HB := sqs HB hb; clear hb ho96; obtain ⟨Ao97, co97, eo97⟩ := Kd.R_slice HO268.out; subst eo97) | ((with_reducible refine gate_callee (f := 152) rfl ?_); refine sqL (some 106) Try.func152 #[.slice Ao97 y266.length co97] ?_; (with_reducible refine (impl_restGcd.calls kj84 _ _ y266 t269 _ ?side1 ?side2 A88.out).mono ?_); (case side1 => repeat (first | exact (Kd.R_reads' HO268.out).2.2 | (with_reducible refine Kd.C_alloc ?_ _) | (with_reducible refine Kd.C_drewN ?_ _) | (with_reducible refine Kd.C_drew ?_))); (case side2 => exact (Kd.R_reads' HO268.out).2.1); rintro e w' ⟨rfl, ⟨nd, rfl⟩⟩; refine ⟨_, rfl, ?_⟩; (try (rw [drewN_self w95]; generalize hq_ : World.drewN w95 _ = w95; have n0_ : Aside0 (Kd.R (Kd.int .i64) 3 w95 w.heap.size (fun _ => True) (.slice Ao97 y266.length co97) y266) := ⟨by rw [← hq_]; exact (by (with_reducible repeat (first | apply Kd.R_alloc | apply Kd.R_drewN | apply Kd.R_drew)); exact HO268.out)⟩; have n1_ : Aside0 (w95.heap[gb242]? = some (.cells #[.int .i64 a1_0, .int .i64 a1_1] 26 (0, 0))) := ⟨by rw [← hq_]; exact (by refine sqt ?_; exact BK242.out)⟩; have n2_ : Aside0 (w95.heap[gb243]? = some (.cells #[.int .i64 a2_0, .int .i64 a2_1] 26 (0, 0))) := ⟨by rw [← hq_]; exact (by refine sqt ?_; exact BK243.out)⟩; have n3_ : Aside0 (w95.heap[gb244]? = some (.cells #[.int .i64 0, .int .i64 0] 26 (0, 0))) := ⟨by rw [← hq_]; exact (by refine sqt ?_; exact BK244.out)⟩; have n4_ : Aside0 (Below w.heap.size w w95) := ⟨by rw [← hq_]; exact (by repeat (first | (with_reducible first | exact HB.out | apply below_alloc | apply pw_below_drewN | apply below_drew1 | refine below_set ?_ GE242.out | refine below_set ?_ GE243.out | refine below_set ?_ GE244.out) | exact HB.out))⟩; clear HO268 BK242 BK243 BK244 HB hq_; have HO268 := n0_; have BK242 := n1_; have BK243 := n2_; have BK244 := n3_; have HB := n4_; clear n0_ n1_ n2_ n3_ n4_)); obtain ⟨hcz98_0, hcz98_1, hfz98_0, hfz98_1⟩ := sqc2 BK244))
                                      refine bodyPost_ret (results_cell_row rfl _ _ gb244 26 #[.int .i64 0, .int .i64 0] (0, 0) _ rfl (by refine sqt ?_; refine blk_put (cs := #[.int .i64 0, .int .i64 0]) ?_ 1 _ rfl; refine sqt ?_; refine blk_put (cs := #[.int .i64 0, .int .i64 0]) ?_ 0 _ rfl; refine sqt ?_; exact BK244.out) Try.underlying26 rfl (by kernel_rfl)) rfl ?_
                                      exact sqe HB
                                    · rw [if_neg c89] at H
                                      have c89b0 : (t269 == 0) = false := beq_eq_false_iff_ne.mpr c89
                                      have c89b1 : (t269 != 0) = true := bne_iff_ne.mpr c89
                                      obtain ⟨y270, hy270⟩ : ∃ y_ : List Int, y_ = (([t269, x9_56] : List Int)) := ⟨_, rfl⟩
                                      replace H : ((impl_restGcd.f kj84 y270).bind fun t273 => ((impl_restOf.f kj84 (wrap64 (a1_1 * a2_1)) t273).bind fun bt274 => (some (bt274.1, bt274.2)))) = some (r1, r2) := by first | (rw [hy270]; with_reducible exact H) | (have H2_ := (Option.bind_some _ _).symm.trans H; rw [hy270]; with_reducible exact H2_) | (have H2_ := (Option.bind_some _ _).symm.trans H; with_reducible exact H2_) | with_reducible exact H | (rw [hy270]; exact H) | exact H
                                      have Ny270 := Aside0.mk hy270
                                      clear hy270
                                      replace H := Option.bind_eq_some_iff.mp H
                                      obtain ⟨t273, A990, H⟩ := H
                                      replace H : ((impl_restOf.f kj84 (wrap64 (a1_1 * a2_1)) t273).bind fun bt274 => (some (bt274.1, bt274.2))) = some (r1, r2) := H
                                      have A99 := Aside0.mk A990
                                      clear A990
                                      replace H := Option.bind_eq_some_iff.mp H
                                      obtain ⟨⟨t274, t275⟩, A1000, H⟩ := H
                                      replace H : (some (t274, t275)) = some (r1, r2) := H
                                      have A100 := Aside0.mk A1000
                                      clear A1000
                                      simp only [Option.some.injEq, Prod.mk.injEq] at H
                                      obtain ⟨rfl, rfl⟩ := H
                                      have hnb101 := NB242_243.out
                                      have hnc101 := NB243_242.out
                                      have hnb102 := NB242_244.out
                                      have hnc102 := NB244_242.out
                                      obtain ⟨hcz103_0, hcz103_1, hfz103_0, hfz103_1⟩ := sqc2 BK242
                                      have hnb104 := NB243_244.out
                                      have hnc104 := NB244_243.out
                                      obtain ⟨hcz105_0, hcz105_1, hfz105_0, hfz105_1⟩ := sqc2 BK243
                                      try go_wp2_with (first | ((with_reducible refine gate_dst (N := 105) rfl ?_); refine Kd.R_lit (Kd.int .i64) _ 3 ?hg (N := 105) ?hd (xs := ([wrap64 (a1_0 * a2_0), wrap64 (a1_0 * a2_1), wrap64 (a2_0 * a1_1)] : List Int)) (inner := [.int .i64 (wrap64 (a1_0 * a2_0)), .int .i64 (wrap64 (a1_0 * a2_1)), .int .i64 (wrap64 (a2_0 * a1_1))]) (ok := fun _ => True) (okp := fun _ => True) ?hr ?hp (fun _ hk => hk) trivial (Below.refl _ _) (Nat.le_refl _) (by simp) ?_; (case hd => rfl); (case hg => rfl); (case hr => first | (go_simp; done) | (go_simp; rfl)); (case hp => exact (Reps.one (show Kd.M (Kd.int .i64) _ _ _ (wrap64 (a1_0 * a2_0)) [.int .i64 (wrap64 (a1_0 * a2_0))] from rfl) (Reps.one (show Kd.M (Kd.int .i64) _ _ _ (wrap64 (a1_0 * a2_1)) [.int .i64 (wrap64 (a1_0 * a2_1))] from rfl) (Reps.one (show Kd.M (Kd.int .i64) _ _ _ (wrap64 (a2_0 * a1_1)) [.int .i64 (wrap64 (a2_0 * a1_1))] from rfl) (Reps.none _ _))))); intro v267 w106 ho107 hb hg_ hnew_; clear hg_ hnew_; (first | rw [← Ny266.out] at ho107 | (simp only [Int.reduceToNat] at ho107; rw [← Ny266.out] at ho107)); have HO268 := Aside0.mk (Kd.R_lower ho107 (below_size (by repeat (first | (with_reducible first | exact HB.out | apply below_alloc | apply pw_below_drewN | apply below_drew1 | refine below_set ?_ GE242.out | refine below_set ?_ GE243.out | refine below_set ?_ GE244.out) | exact HB.out)))); replace BK242 := sqb BK242 hb; replace BK243 := sqb BK243 hb; replace BK244 := sqb BK244 hb; replace HB := sqs HB hb; clear hb ho107; obtain ⟨Ao108, co108, eo108⟩ := Kd.R_slice HO268.out; subst eo108) | ((with_reducible refine gate_callee (f := 152) rfl ?_); refine sqL (some 106) Try.func152 #[.slice Ao108 y266.length co108] ?_; (with_reducible refine (impl_restGcd.calls kj84 _ _ y266 t269 _ ?side1 ?side2 A88.out).mono ?_); (case side1 => repeat (first | exact (Kd.R_reads' HO268.out).2.2 | (with_reducible refine Kd.C_alloc ?_ _) | (with_reducible refine Kd.C_drewN ?_ _) | (with_reducible refine Kd.C_drew ?_))); (case side2 => exact (Kd.R_reads' HO268.out).2.1); rintro e w' ⟨rfl, ⟨nd, rfl⟩⟩; refine ⟨_, rfl, ?_⟩; (try (rw [drewN_self w106]; generalize hq_ : World.drewN w106 _ = w106; have n0_ : Aside0 (Kd.R (Kd.int .i64) 3 w106 w.heap.size (fun _ => True) (.slice Ao108 y266.length co108) y266) := ⟨by rw [← hq_]; exact (by (with_reducible repeat (first | apply Kd.R_alloc | apply Kd.R_drewN | apply Kd.R_drew)); exact HO268.out)⟩; have n1_ : Aside0 (w106.heap[gb242]? = some (.cells #[.int .i64 a1_0, .int .i64 a1_1] 26 (0, 0))) := ⟨by rw [← hq_]; exact (by refine sqt ?_; exact BK242.out)⟩; have n2_ : Aside0 (w106.heap[gb243]? = some (.cells #[.int .i64 a2_0, .int .i64 a2_1] 26 (0, 0))) := ⟨by rw [← hq_]; exact (by refine sqt ?_; exact BK243.out)⟩; have n3_ : Aside0 (w106.heap[gb244]? = some (.cells #[.int .i64 0, .int .i64 0] 26 (0, 0))) := ⟨by rw [← hq_]; exact (by refine sqt ?_; exact BK244.out)⟩; have n4_ : Aside0 (Below w.heap.size w w106) := ⟨by rw [← hq_]; exact (by repeat (first | (with_reducible first | exact HB.out | apply below_alloc | apply pw_below_drewN | apply below_drew1 | refine below_set ?_ GE242.out | refine below_set ?_ GE243.out | refine below_set ?_ GE244.out) | exact HB.out))⟩; clear HO268 BK242 BK243 BK244 HB hq_; have HO268 := n0_; have BK242 := n1_; have BK243 := n2_; have BK244 := n3_; have HB := n4_; clear n0_ n1_ n2_ n3_ n4_))))
                                      replace HO268 := Aside0.mk (Kd.R_drew HO268.out)
                                      replace BK242 := Aside0.mk (blk_drew BK242.out)
                                      replace BK243 := Aside0.mk (blk_drew BK243.out)
                                      replace BK244 := Aside0.mk (blk_drew BK244.out)
                                      replace HB := Aside0.mk (below_drew1 HB.out)
                                      refine start_ (n := 11) (S := fun w' => w'.cell? ⟨gb242, 0, none⟩ = some (.int .i64 a1_0) ∧ w'.cell? ⟨gb242, 1, none⟩ = some (.int .i64 a1_1) ∧ w'.cell? ⟨gb243, 0, none⟩ = some (.int .i64 a2_0) ∧ w'.cell? ⟨gb243, 1, none⟩ = some (.int .i64 a2_1)) (ds := []) #[false, false, false, false, false, false, false, false, false, false, false] (by kernel_rfl) rfl rfl ⟨(blk_cell BK242.out 0).trans rfl, (blk_cell BK242.out 1).trans rfl, (blk_cell BK243.out 0).trans rfl, (blk_cell BK243.out 1).trans rfl⟩ (fun hHeld => ?_); refine with_tabW impl_RestDo.tab26 impl_RestDo.bits26 (fun HT_ HW_ => ?_)
                                      generalize w106.drew = w109 at HO268 BK242 BK243 BK244 HB hHeld ⊢
                                      refine sqp HT_ 0 110 ?_
                                      refine sqp HT_ 2 112 ?_
                                      refine sqp HT_ 5 115 ?_
                                      refine sqp HT_ 6 116 ?_
                                      refine sqw HT_ HW_ 1 111 hHeld ?_
                                      refine sqw HT_ HW_ 3 113 hHeld ?_
                                      refine sqp HT_ 4 114 ?_
                                      refine sqo HT_ 7 117 (fun K hK => ?_)
                                      refine Kd.R_lit_step (Kd.int .i64) _ 3 ?hg (N := 117) ?hd (xs := ([t269, x9_56] : List Int)) (inner := [.int .i64 t269, .int .i64 x9_56]) (ok := fun _ => True) (okp := fun _ => True) ?hr ?hp (fun _ hk => hk) trivial (Below.refl _ _) (Nat.le_refl _) (by simp) ?_; (case hd => rfl); (case hg => rfl); (case hr => first | (go_simp; done) | (go_simp; rfl)); (case hp => exact (Reps.one (show Kd.M (Kd.int .i64) _ _ _ t269 [.int .i64 t269] from rfl) (Reps.one (show Kd.M (Kd.int .i64) _ _ _ x9_56 [.int .i64 x9_56] from rfl) (Reps.none _ _))))
                                      intro v271 w110 ho111 hb hg_ hnew_
                                      clear hg_ hnew_
                                      (first | rw [← Ny270.out] at ho111 | (simp only [Int.reduceToNat] at ho111; rw [← Ny270.out] at ho111))
                                      have n0_ := Aside0.mk (Kd.R_elder' (by (with_reducible repeat (first | apply Kd.R_alloc | apply Kd.R_drewN | apply Kd.R_drew)); exact HO268.out) (Kd.R_base ho111) hb)
                                      have n1_ := Aside0.mk (Kd.R_lower (Kd.R_new' ho111 (Kd.R_lt (by (with_reducible repeat (first | apply Kd.R_alloc | apply Kd.R_drewN | apply Kd.R_drew)); exact HO268.out))) (below_size (by repeat (first | (with_reducible first | exact HB.out | apply below_alloc | apply pw_below_drewN | apply below_drew1 | refine below_set ?_ GE242.out | refine below_set ?_ GE243.out | refine below_set ?_ GE244.out) | exact HB.out))))
                                      have n2_ := sqb BK242 hb
                                      have n3_ := sqb BK243 hb
                                      have n4_ := sqb BK244 hb
                                      have n5_ := sqs HB hb
                                      clear HO268
                                      clear BK242
                                      clear BK243
                                      clear BK244
                                      clear HB
                                      have HO268 := n0_
                                      have HO272 := n1_
                                      have BK242 := n2_
                                      have BK243 := n3_
                                      have BK244 := n4_
                                      have HB := n5_
                                      clear n0_ n1_ n2_ n3_ n4_ n5_
                                      clear hb ho111
                                      obtain ⟨Ao112, co112, eo112⟩ := Kd.R_slice HO272.out
                                      (first | subst eo112 | (injection eo112 with f1_ f2_ f3_; have f4_ := f1_.symm; have f5_ := f3_.symm; clear f1_ f2_ f3_; subst f4_; subst f5_))
                                      refine hK.out _ _ sqz (fun hHeld => ?_)
                                      clear hK K
                                      refine sqnm ?_
                                      refine sqo HT_ 8 118 (fun K hK => ?_)
                                      refine sqG Try.func152 #[.slice Ao112 y270.length co112] ?_
                                      with_reducible refine (impl_restGcd.calls kj84 _ _ y270 t273 _ ?side1 ?side2 A99.out).mono ?_
                                      (case side1 => repeat (first | exact (Kd.R_reads' HO272.out).2.2 | (with_reducible refine Kd.C_alloc ?_ _) | (with_reducible refine Kd.C_drewN ?_ _) | (with_reducible refine Kd.C_drew ?_)))
                                      (case side2 => exact (Kd.R_reads' HO272.out).2.1)
                                      rintro e w' ⟨rfl, ⟨nd, rfl⟩⟩
                                      refine ⟨_, rfl, ?_⟩
                                      refine hK.out _ _ sqz (fun hHeld => ?_)
                                      clear hK K
                                      refine sqnm ?_
                                      refine sqo HT_ 9 119 (fun K hK => ?_)
                                      refine sqG Try.func151 #[.int .i64 (wrap64 (a1_1 * a2_1)), .int .i64 t273] ?_
                                      with_reducible refine (impl_restOf.calls kj84 (wrap64 (a1_1 * a2_1)) t273 t274 t275 _ A100.out).mono ?_
                                      rintro e w113 ⟨rfl, hb⟩
                                      refine ⟨_, rfl, ?_⟩
                                      have n0_ := Aside0.mk (Kd.R_below (by (with_reducible repeat (first | apply Kd.R_alloc | apply Kd.R_drewN | apply Kd.R_drew)); exact HO268.out) hb)
                                      have n1_ := Aside0.mk (Kd.R_below (by (with_reducible repeat (first | apply Kd.R_alloc | apply Kd.R_drewN | apply Kd.R_drew)); exact HO272.out) hb)
                                      have n2_ := sqb BK242 hb
                                      have n3_ := sqb BK243 hb
                                      have n4_ := sqb BK244 hb
                                      have n5_ := sqs HB hb
                                      clear HO268
                                      clear HO272
                                      clear BK242
                                      clear BK243
                                      clear BK244
                                      clear HB
                                      have HO268 := n0_
                                      have HO272 := n1_
                                      have BK242 := n2_
                                      have BK243 := n3_
                                      have BK244 := n4_
                                      have HB := n5_
                                      clear n0_ n1_ n2_ n3_ n4_ n5_
                                      (try clear hb)
                                      refine hK.out _ _ sqz (fun hHeld => ?_)
                                      clear hK K
                                      refine sqnm ?_
                                      refine one_ (i := 10) (N := none) #[true, true, true, true, true, true, true, true, true, true, true] rfl rfl (one_of HT_.out (by kernel_rfl)) (by decide) (fun K hK => ?_)
                                      have hs114 : w113.cell? ⟨gb244, 0, none⟩ = some (.int .i64 0) := (blk_cell BK244.out 0).trans rfl
                                      have hfs114 := blk_frozen BK244.out 0
                                      have hns114_0 := NB242_244.out
                                      have hns114_1 := NB243_244.out
                                      have hms114_0 := NB244_242.out
                                      have hms114_1 := NB244_243.out
                                      have hs115 : w113.cell? ⟨gb244, 1, none⟩ = some (.int .i64 0) := (blk_cell BK244.out 1).trans rfl
                                      have hfs115 := blk_frozen BK244.out 1
                                      have hns115_0 := NB242_244.out
                                      have hns115_1 := NB243_244.out
                                      have hms115_0 := NB244_242.out
                                      have hms115_1 := NB244_243.out
                                      refine skip_ (w1 := ?_) (by rfl) rfl ?_ ?_
                                      rotate_left
                                      · go_simp
                                        rfl
                                      refine hK.out _ _ ⟨((cell_far (p := ⟨gb244, _, none⟩) NB242_244.out _).trans (((cell_far (p := ⟨gb244, _, none⟩) NB242_244.out _).trans (hHeld.1)))), ((cell_far (p := ⟨gb244, _, none⟩) NB242_244.out _).trans (((cell_far (p := ⟨gb244, _, none⟩) NB242_244.out _).trans (hHeld.2.1)))), ((cell_far (p := ⟨gb244, _, none⟩) NB243_244.out _).trans (((cell_far (p := ⟨gb244, _, none⟩) NB243_244.out _).trans (hHeld.2.2.1)))), ((cell_far (p := ⟨gb244, _, none⟩) NB243_244.out _).trans (((cell_far (p := ⟨gb244, _, none⟩) NB243_244.out _).trans (hHeld.2.2.2))))⟩ (fun hHeld => ?_)
                                      clear hK K
                                      refine done_ (done_of HT_.out (by kernel_rfl)) ?_
                                      try go_wp2
                                      refine bodyPost_ret (results_cell_row rfl _ _ gb244 26 #[.int .i64 t274, .int .i64 t275] (0, 0) _ rfl (by refine sqt ?_; refine blk_put (cs := #[.int .i64 t274, .int .i64 0]) ?_ 1 _ rfl; refine sqt ?_; refine blk_put (cs := #[.int .i64 0, .int .i64 0]) ?_ 0 _ rfl; refine sqt ?_; exact BK244.out) Try.underlying26 rfl (by kernel_rfl)) rfl ?_
                                      exact sqe HB
                                  · replace c87 := Bool.eq_false_iff.mpr c87
                                    subst c87
                                    have H1 : (if a0 = 9 then (if a2_0 = 0 then (if a2_1 ≥ 0 then (impl_RestDo.j6 kj84 (decide (a2_1 ≤ 31)) a1_0 a1_1 a2_0 a2_1) else (impl_RestDo.j6 kj84 false a1_0 a1_1 a2_0 a2_1)) else (impl_RestDo.j6 kj84 false a1_0 a1_1 a2_0 a2_1)) else (if a0 = 5 then ((impl_restGcd.f kj84 (([a1_0, a2_0, a2_1] : List Int))).bind fun t283 => (if t283 = 0 then ((impl_restAll.f).bind fun bt284 => (some (bt284.1, bt284.2))) else ((impl_restOf.f kj84 a1_1 t283).bind fun bt286 => (some (bt286.1, bt286.2))))) else ((impl_restAll.f).bind fun bt288 => (some (bt288.1, bt288.2))))) = some (r1, r2) := by rw [if_neg (show ¬ (false = true) by decide)] at H; exact H
                                    clear H
                                    have H := H1
                                    clear H1
                                    by_cases c116 : a0 = 9
                                    · rw [if_pos c116] at H
                                      have c116b0 : (a0 == 9) = true := beq_iff_eq.mpr c116
                                      have c116b1 : (a0 != 9) = false := bne_eq_false_iff_eq.mpr c116
                                      clear c116
                                      have HC117 := Aside0.mk H
                                      clear H
                                      go_upto_region 28 with (fail)
                                      go_cut [134] (fun v134 wc => ∃ (kq : Nat) (x134_116 : Bool), v134 = .bool x134_116 ∧ Aside0 (impl_RestDo.j6 kq x134_116 a1_0 a1_1 a2_0 a2_1 = some (r1, r2)) ∧ Aside0 (kq ≤ kj84) ∧ Aside0 (wc.heap[gb242]? = some (.cells #[.int .i64 a1_0, .int .i64 a1_1] 26 (0, 0))) ∧ Aside0 (wc.heap[gb243]? = some (.cells #[.int .i64 a2_0, .int .i64 a2_1] 26 (0, 0))) ∧ Aside0 (wc.heap[gb244]? = some (.cells #[.int .i64 0, .int .i64 0] 26 (0, 0))) ∧ Aside0 (Below w.heap.size w wc))
                                      case first =>
                                        have H := HC117.out
                                        clear HC117
                                        by_cases c118 : a2_0 = 0
                                        · rw [if_pos c118] at H
                                          have c118b0 : (a2_0 == 0) = true := beq_iff_eq.mpr c118
                                          have c118b1 : (a2_0 != 0) = false := bne_eq_false_iff_eq.mpr c118
                                          clear c118
                                          (first | rw [c118b0] | (simp only [i64_w, i32_w]; rw [c118b0]) | skip)
                                          by_cases c119 : a2_1 ≥ 0
                                          · rw [if_pos c119] at H
                                            have c119b0 : decide (0 ≤ a2_1) = true := decide_eq_true c119
                                            clear c119
                                            have H' := Aside0.mk H
                                            clear H
                                            have hnb120 := NB243_242.out
                                            have hnc120 := NB242_243.out
                                            have hnb121 := NB243_244.out
                                            have hnc121 := NB244_243.out
                                            obtain ⟨hcz122_0, hcz122_1, hfz122_0, hfz122_1⟩ := sqc2 BK243
                                            go_wp2
                                            go_meet
                                            case rel => exact ⟨_, (decide (a2_1 ≤ 31)), (by first | rfl | (simp; done) | (simp [*]; done)), H', ⟨by have := HJ3.out; have := HJ29.out; have := HJ56.out; have := HJ60.out; have := HJ72.out; have := HJ84.out; first | omega | exact Nat.le_refl _⟩, sqk BK242, sqk BK243, sqk BK244, sqh HB⟩
                                          · rw [if_neg c119] at H
                                            have c119b0 : decide (0 ≤ a2_1) = false := decide_eq_false c119
                                            clear c119
                                            have H' := Aside0.mk H
                                            clear H
                                            have hnb123 := NB243_242.out
                                            have hnc123 := NB242_243.out
                                            have hnb124 := NB243_244.out
                                            have hnc124 := NB244_243.out
                                            obtain ⟨hcz125_0, hcz125_1, hfz125_0, hfz125_1⟩ := sqc2 BK243
                                            go_wp2
                                            go_meet
                                            case rel => exact ⟨_, (false), (by first | rfl | (simp; done) | (simp [*]; done)), H', ⟨by have := HJ3.out; have := HJ29.out; have := HJ56.out; have := HJ60.out; have := HJ72.out; have := HJ84.out; first | omega | exact Nat.le_refl _⟩, sqk BK242, sqk BK243, sqk BK244, sqh HB⟩
                                        · rw [if_neg c118] at H
                                          have c118b0 : (a2_0 == 0) = false := beq_eq_false_iff_ne.mpr c118
                                          have c118b1 : (a2_0 != 0) = true := bne_iff_ne.mpr c118
                                          (first | rw [c118b0] | (simp only [i64_w, i32_w]; rw [c118b0]) | skip)
                                          have H' := Aside0.mk H
                                          clear H
                                          have hnb126 := NB243_242.out
                                          have hnc126 := NB242_243.out
                                          have hnb127 := NB243_244.out
                                          have hnc127 := NB244_243.out
                                          obtain ⟨hcz128_0, hcz128_1, hfz128_0, hfz128_1⟩ := sqc2 BK243
                                          go_wp2
                                          go_meet
                                          case rel => exact ⟨_, (false), (by first | rfl | (simp; done) | (simp [*]; done)), H', ⟨by have := HJ3.out; have := HJ29.out; have := HJ56.out; have := HJ60.out; have := HJ72.out; have := HJ84.out; first | omega | exact Nat.le_refl _⟩, sqk BK242, sqk BK243, sqk BK244, sqh HB⟩
                                      case rest =>
                                        clear HC117
                                        try clear c9
                                        try clear c11
                                        try clear c24
                                        try clear c31
                                        try clear c31b0
                                        try clear c31b1
                                        try clear c40
                                        try clear c42
                                        try clear c42b0
                                        try clear c42b1
                                        try clear c58
                                        try clear c58b0
                                        try clear c58b1
                                        try clear c59
                                        try clear c59b0
                                        try clear c59b1
                                        try clear c60
                                        try clear c60b0
                                        try clear c60b1
                                        try clear c62
                                        try clear c62b0
                                        try clear c62b1
                                        try clear c63
                                        try clear c74
                                        try clear c74b0
                                        try clear c74b1
                                        try clear c75
                                        try clear c86
                                        try clear c86b0
                                        try clear c86b1
                                        try clear c87
                                        try clear c89
                                        try clear c89b0
                                        try clear c89b1
                                        try clear c116
                                        try clear c116b0
                                        try clear c116b1
                                        try clear hcz103_0
                                        try clear hcz103_1
                                        try clear hcz105_0
                                        try clear hcz105_1
                                        try clear hcz15_0
                                        try clear hcz15_1
                                        try clear hcz18_0
                                        try clear hcz18_1
                                        try clear hcz22_0
                                        try clear hcz22_1
                                        try clear hcz29_0
                                        try clear hcz29_1
                                        try clear hcz34_0
                                        try clear hcz34_1
                                        try clear hcz36_0
                                        try clear hcz36_1
                                        try clear hcz39_0
                                        try clear hcz39_1
                                        try clear hcz45_0
                                        try clear hcz45_1
                                        try clear hcz47_0
                                        try clear hcz47_1
                                        try clear hcz48_0
                                        try clear hcz48_1
                                        try clear hcz52_0
                                        try clear hcz52_1
                                        try clear hcz54_0
                                        try clear hcz54_1
                                        try clear hcz56_0
                                        try clear hcz56_1
                                        try clear hcz92_0
                                        try clear hcz92_1
                                        try clear hcz94_0
                                        try clear hcz94_1
                                        try clear hcz98_0
                                        try clear hcz98_1
                                        try clear hfz103_0
                                        try clear hfz103_1
                                        try clear hfz105_0
                                        try clear hfz105_1
                                        try clear hfz15_0
                                        try clear hfz15_1
                                        try clear hfz18_0
                                        try clear hfz18_1
                                        try clear hfz22_0
                                        try clear hfz22_1
                                        try clear hfz29_0
                                        try clear hfz29_1
                                        try clear hfz34_0
                                        try clear hfz34_1
                                        try clear hfz36_0
                                        try clear hfz36_1
                                        try clear hfz39_0
                                        try clear hfz39_1
                                        try clear hfz45_0
                                        try clear hfz45_1
                                        try clear hfz47_0
                                        try clear hfz47_1
                                        try clear hfz48_0
                                        try clear hfz48_1
                                        try clear hfz52_0
                                        try clear hfz52_1
                                        try clear hfz54_0
                                        try clear hfz54_1
                                        try clear hfz56_0
                                        try clear hfz56_1
                                        try clear hfz92_0
                                        try clear hfz92_1
                                        try clear hfz94_0
                                        try clear hfz94_1
                                        try clear hfz98_0
                                        try clear hfz98_1
                                        obtain ⟨kq, x134_116, rfl, HA, HJ116, BK242, BK243, BK244, HB⟩ := hcut
                                        cases kq with
                                        | zero => exact absurd HA.out (by simp [impl_RestDo.j6])
                                        | succ kj116 =>
                                          have H := HA.out
                                          clear HA
                                          simp only [impl_RestDo.j6] at H
                                          by_cases c129 : x134_116 = true
                                          · subst c129
                                            have H1 : (if 0 ≤ (IntKind.u64.wrap (a2_1)) then ((impl_restOf.f kj116 (wrap64 (a1_1 * (shl .i64 1 (IntKind.u64.wrap (a2_1))))) (wrap64 (a1_0 * (shl .i64 1 (IntKind.u64.wrap (a2_1)))))).bind fun bt276 => (some (bt276.1, bt276.2))) else (none)) = some (r1, r2) := by rw [if_pos rfl] at H; exact H
                                            clear H
                                            have H := H1
                                            clear H1
                                            obtain ⟨ji130, hji130⟩ : ∃ j_ : Int, (IntKind.u64.wrap (a2_1)) = j_ := ⟨_, rfl⟩
                                            replace H : (if 0 ≤ (ji130) then ((impl_restOf.f kj116 (wrap64 (a1_1 * (shl .i64 1 (ji130)))) (wrap64 (a1_0 * (shl .i64 1 (ji130))))).bind fun bt276 => (some (bt276.1, bt276.2))) else (none)) = some (r1, r2) := by first | (rw [hji130] at H; exact H) | (simp only [hji130] at H ⊢; exact H)
                                            by_cases c131 : 0 ≤ (ji130)
                                            · rw [if_pos c131] at H
                                              have c131b0 := eq_true c131
                                              have c131b1 : decide (0 ≤ (ji130)) = true := decide_eq_true c131
                                              clear c131
                                              obtain ⟨ji132, hji132⟩ : ∃ j_ : Int, (shl .i64 1 (ji130)) = j_ := ⟨_, rfl⟩
                                              replace H : ((impl_restOf.f kj116 (wrap64 (a1_1 * (ji132))) (wrap64 (a1_0 * (ji132)))).bind fun bt276 => (some (bt276.1, bt276.2))) = some (r1, r2) := by first | (rw [hji132] at H; exact H) | (simp only [hji132] at H ⊢; exact H)
                                              have hji132_ : (IntKind.i64.wrap (1 * 2 ^ min (ji130).toNat 64)) = ji132 := hji132
                                              have hji132z : (ji130) ≤ 64 → (IntKind.i64.wrap (1 * 2 ^ (ji130).toNat)) = ji132 := shl_small hji132
                                              have hji132u : (IntKind.i64.wrap (2 ^ min (ji130).toNat 64)) = ji132 := by have h_ := hji132_; rw [Int.one_mul] at h_; exact h_
                                              have hji132v : (ji130) ≤ 64 → (IntKind.i64.wrap (2 ^ (ji130).toNat)) = ji132 := fun hle_ => by have h_ := hji132z hle_; rw [Int.one_mul] at h_; exact h_
                                              have hji132y : (wrap64 (1 * 2 ^ min (ji130).toNat 64)) = ji132 := (i64_w _).symm.trans hji132_
                                              have hji132x : (ji130) ≤ 64 → (wrap64 (1 * 2 ^ (ji130).toNat)) = ji132 := fun h_ => (i64_w _).symm.trans (hji132z h_)
                                              replace H := Option.bind_eq_some_iff.mp H
                                              obtain ⟨⟨t276, t277⟩, A1330, H⟩ := H
                                              replace H : (some (t276, t277)) = some (r1, r2) := H
                                              have A133 := Aside0.mk A1330
                                              clear A1330
                                              simp only [Option.some.injEq, Prod.mk.injEq] at H
                                              obtain ⟨rfl, rfl⟩ := H
                                              have hnb134 := NB243_242.out
                                              have hnc134 := NB242_243.out
                                              have hnb135 := NB243_244.out
                                              have hnc135 := NB244_243.out
                                              obtain ⟨hcz136_0, hcz136_1, hfz136_0, hfz136_1⟩ := sqc2 BK243
                                              have hnb137 := NB242_244.out
                                              have hnc137 := NB244_242.out
                                              obtain ⟨hcz138_0, hcz138_1, hfz138_0, hfz138_1⟩ := sqc2 BK242
                                              go_wp2_with (first | ((with_reducible refine gate_callee (f := 151) rfl ?_); refine goesL_ (some 147) rfl rfl Try.func151 (by kernel_rfl) rfl #[.int .i64 (wrap64 (a1_1 * (ji132))), .int .i64 (wrap64 (a1_0 * (ji132)))] rfl (by (try simp only [List.map_toArray, List.map_cons, List.map_nil]); first | done | (simp only [hji132]; rfl) | rfl | (simp only [List.length_drop, List.length_take]; rfl)) ?_; (with_reducible refine (impl_restOf.calls kj116 (wrap64 (a1_1 * (ji132))) (wrap64 (a1_0 * (ji132))) t276 t277 _ A133.out).mono ?_); rintro e w139 ⟨rfl, hb⟩; refine ⟨_, rfl, ?_⟩; replace BK242 := sqb BK242 hb; replace BK243 := sqb BK243 hb; replace BK244 := sqb BK244 hb; replace HB := sqs HB hb; (try clear hb); obtain ⟨hcz140_0, hcz140_1, hfz140_0, hfz140_1⟩ := sqc2 BK244))
                                              refine bodyPost_ret (results_cell_row rfl _ _ gb244 26 #[.int .i64 t276, .int .i64 t277] (0, 0) _ rfl (by refine sqt ?_; refine blk_put (cs := #[.int .i64 t276, .int .i64 0]) ?_ 1 _ rfl; refine sqt ?_; refine blk_put (cs := #[.int .i64 0, .int .i64 0]) ?_ 0 _ rfl; refine sqt ?_; exact BK244.out) Try.underlying26 rfl (by kernel_rfl)) rfl ?_
                                              exact ⟨by first | rfl | (simp [errW_none, errW_some] <;> rfl) | (simp only [← hji130, ← hji132]; first | rfl | (simp [errW_none, errW_some] <;> rfl)) | (simp [*, errW_none, errW_some] <;> rfl), by repeat (first | (with_reducible first | exact HB.out | apply below_alloc | apply pw_below_drewN | apply below_drew1 | refine below_set ?_ GE242.out | refine below_set ?_ GE243.out | refine below_set ?_ GE244.out) | exact HB.out)⟩
                                            · rw [if_neg c131] at H
                                              exact absurd H (by simp)
                                          · replace c129 := Bool.eq_false_iff.mpr c129
                                            subst c129
                                            have H1 : ((impl_restAll.f).bind fun bt278 => (some (bt278.1, bt278.2))) = some (r1, r2) := by rw [if_neg (show ¬ (false = true) by decide)] at H; exact H
                                            clear H
                                            have H := H1
                                            clear H1
                                            replace H := Option.bind_eq_some_iff.mp H
                                            obtain ⟨⟨t278, t279⟩, A1410, H⟩ := H
                                            replace H : (some (t278, t279)) = some (r1, r2) := H
                                            have A141 := Aside0.mk A1410
                                            clear A1410
                                            simp only [Option.some.injEq, Prod.mk.injEq] at H
                                            obtain ⟨rfl, rfl⟩ := H
                                            go_wp2_with (first | ((with_reducible refine gate_callee (f := 150) rfl ?_); refine sqL (some 164) Try.func150 #[] ?_; (with_reducible refine (impl_restAll.calls  t278 t279 _ A141.out).mono ?_); rintro e w142 ⟨rfl, hb⟩; refine ⟨_, rfl, ?_⟩; replace BK242 := sqb BK242 hb; replace BK243 := sqb BK243 hb; replace BK244 := sqb BK244 hb; replace HB := sqs HB hb; (try clear hb); have hnb143 := NB244_242.out; have hnc143 := NB242_244.out; have hnb144 := NB244_243.out; have hnc144 := NB243_244.out; obtain ⟨hcz145_0, hcz145_1, hfz145_0, hfz145_1⟩ := sqc2 BK244))
                                            refine bodyPost_ret (results_cell_row rfl _ _ gb244 26 #[.int .i64 t278, .int .i64 t279] (0, 0) _ rfl (by refine sqt ?_; refine blk_put (cs := #[.int .i64 t278, .int .i64 0]) ?_ 1 _ rfl; refine sqt ?_; refine blk_put (cs := #[.int .i64 0, .int .i64 0]) ?_ 0 _ rfl; refine sqt ?_; exact BK244.out) Try.underlying26 rfl (by kernel_rfl)) rfl ?_
                                            exact sqe HB
                                    · rw [if_neg c116] at H
                                      have c116b0 : (a0 == 9) = false := beq_eq_false_iff_ne.mpr c116
                                      have c116b1 : (a0 != 9) = true := bne_iff_ne.mpr c116
                                      by_cases c146 : a0 = 5
                                      · rw [if_pos c146] at H
                                        have c146b0 : (a0 == 5) = true := beq_iff_eq.mpr c146
                                        have c146b1 : (a0 != 5) = false := bne_eq_false_iff_eq.mpr c146
                                        clear c146
                                        obtain ⟨y280, hy280⟩ : ∃ y_ : List Int, y_ = (([a1_0, a2_0, a2_1] : List Int)) := ⟨_, rfl⟩
                                        replace H : ((impl_restGcd.f kj84 y280).bind fun t283 => (if t283 = 0 then ((impl_restAll.f).bind fun bt284 => (some (bt284.1, bt284.2))) else ((impl_restOf.f kj84 a1_1 t283).bind fun bt286 => (some (bt286.1, bt286.2))))) = some (r1, r2) := by first | (rw [hy280]; with_reducible exact H) | (have H2_ := (Option.bind_some _ _).symm.trans H; rw [hy280]; with_reducible exact H2_) | (have H2_ := (Option.bind_some _ _).symm.trans H; with_reducible exact H2_) | with_reducible exact H | (rw [hy280]; exact H) | exact H
                                        have Ny280 := Aside0.mk hy280
                                        clear hy280
                                        replace H := Option.bind_eq_some_iff.mp H
                                        obtain ⟨t283, A1470, H⟩ := H
                                        replace H : (if t283 = 0 then ((impl_restAll.f).bind fun bt284 => (some (bt284.1, bt284.2))) else ((impl_restOf.f kj84 a1_1 t283).bind fun bt286 => (some (bt286.1, bt286.2)))) = some (r1, r2) := H
                                        have A147 := Aside0.mk A1470
                                        clear A1470
                                        by_cases c148 : t283 = 0
                                        · rw [if_pos c148] at H
                                          have c148b0 : (t283 == 0) = true := beq_iff_eq.mpr c148
                                          have c148b1 : (t283 != 0) = false := bne_eq_false_iff_eq.mpr c148
                                          clear c148
                                          replace H := Option.bind_eq_some_iff.mp H
                                          obtain ⟨⟨t284, t285⟩, A1490, H⟩ := H
                                          replace H : (some (t284, t285)) = some (r1, r2) := H
                                          have A149 := Aside0.mk A1490
                                          clear A1490
                                          simp only [Option.some.injEq, Prod.mk.injEq] at H
                                          obtain ⟨rfl, rfl⟩ := H
                                          have hnb150 := NB242_243.out
                                          have hnc150 := NB243_242.out
                                          have hnb151 := NB242_244.out
                                          have hnc151 := NB244_242.out
                                          obtain ⟨hcz152_0, hcz152_1, hfz152_0, hfz152_1⟩ := sqc2 BK242
                                          have hnb153 := NB243_244.out
                                          have hnc153 := NB244_243.out
                                          obtain ⟨hcz154_0, hcz154_1, hfz154_0, hfz154_1⟩ := sqc2 BK243
                                          go_wp2_with (first | ((with_reducible refine gate_dst (N := 156) rfl ?_); refine Kd.R_lit (Kd.int .i64) _ 3 ?hg (N := 156) ?hd (xs := ([a1_0, a2_0, a2_1] : List Int)) (inner := [.int .i64 a1_0, .int .i64 a2_0, .int .i64 a2_1]) (ok := fun _ => True) (okp := fun _ => True) ?hr ?hp (fun _ hk => hk) trivial (Below.refl _ _) (Nat.le_refl _) (by simp) ?_; (case hd => rfl); (case hg => rfl); (case hr => first | (go_simp; done) | (go_simp; rfl)); (case hp => exact (Reps.one (show Kd.M (Kd.int .i64) _ _ _ a1_0 [.int .i64 a1_0] from rfl) (Reps.one (show Kd.M (Kd.int .i64) _ _ _ a2_0 [.int .i64 a2_0] from rfl) (Reps.one (show Kd.M (Kd.int .i64) _ _ _ a2_1 [.int .i64 a2_1] from rfl) (Reps.none _ _))))); intro v281 w155 ho156 hb hg_ hnew_; clear hg_ hnew_; (first | rw [← Ny280.out] at ho156 | (simp only [Int.reduceToNat] at ho156; rw [← Ny280.out] at ho156)); have HO282 := Aside0.mk (Kd.R_lower ho156 (below_size (by repeat (first | (with_reducible first | exact HB.out | apply below_alloc | apply pw_below_drewN | apply below_drew1 | refine below_set ?_ GE242.out | refine below_set ?_ GE243.out | refine below_set ?_ GE244.out) | exact HB.out)))); replace BK242 := sqb BK242 hb; replace BK243 := sqb BK243 hb; replace BK244 := sqb BK244 hb; replace HB := sqs HB hb; clear hb ho156; obtain ⟨Ao157, co157, eo157⟩ := Kd.R_slice HO282.out; subst eo157) | ((with_reducible refine gate_callee (f := 152) rfl ?_); refine sqL (some 157) Try.func152 #[.slice Ao157 y280.length co157] ?_; (with_reducible refine (impl_restGcd.calls kj84 _ _ y280 t283 _ ?side1 ?side2 A147.out).mono ?_); (case side1 => repeat (first | exact (Kd.R_reads' HO282.out).2.2 | (with_reducible refine Kd.C_alloc ?_ _) | (with_reducible refine Kd.C_drewN ?_ _) | (with_reducible refine Kd.C_drew ?_))); (case side2 => exact (Kd.R_reads' HO282.out).2.1); rintro e w' ⟨rfl, ⟨nd, rfl⟩⟩; refine ⟨_, rfl, ?_⟩; (try (rw [drewN_self w155]; generalize hq_ : World.drewN w155 _ = w155; have n0_ : Aside0 (Kd.R (Kd.int .i64) 3 w155 w.heap.size (fun _ => True) (.slice Ao157 y280.length co157) y280) := ⟨by rw [← hq_]; exact (by (with_reducible repeat (first | apply Kd.R_alloc | apply Kd.R_drewN | apply Kd.R_drew)); exact HO282.out)⟩; have n1_ : Aside0 (w155.heap[gb242]? = some (.cells #[.int .i64 a1_0, .int .i64 a1_1] 26 (0, 0))) := ⟨by rw [← hq_]; exact (by refine sqt ?_; exact BK242.out)⟩; have n2_ : Aside0 (w155.heap[gb243]? = some (.cells #[.int .i64 a2_0, .int .i64 a2_1] 26 (0, 0))) := ⟨by rw [← hq_]; exact (by refine sqt ?_; exact BK243.out)⟩; have n3_ : Aside0 (w155.heap[gb244]? = some (.cells #[.int .i64 0, .int .i64 0] 26 (0, 0))) := ⟨by rw [← hq_]; exact (by refine sqt ?_; exact BK244.out)⟩; have n4_ : Aside0 (Below w.heap.size w w155) := ⟨by rw [← hq_]; exact (by repeat (first | (with_reducible first | exact HB.out | apply below_alloc | apply pw_below_drewN | apply below_drew1 | refine below_set ?_ GE242.out | refine below_set ?_ GE243.out | refine below_set ?_ GE244.out) | exact HB.out))⟩; clear HO282 BK242 BK243 BK244 HB hq_; have HO282 := n0_; have BK242 := n1_; have BK243 := n2_; have BK244 := n3_; have HB := n4_; clear n0_ n1_ n2_ n3_ n4_))) | ((with_reducible refine gate_callee (f := 150) rfl ?_); refine sqL (some 164) Try.func150 #[] ?_; (with_reducible refine (impl_restAll.calls  t284 t285 _ A149.out).mono ?_); rintro e w158 ⟨rfl, hb⟩; refine ⟨_, rfl, ?_⟩; have n0_ := Aside0.mk (Kd.R_below (by (with_reducible repeat (first | apply Kd.R_alloc | apply Kd.R_drewN | apply Kd.R_drew)); exact HO282.out) hb); have n1_ := sqb BK242 hb; have n2_ := sqb BK243 hb; have n3_ := sqb BK244 hb; have n4_ := sqs HB hb; clear HO282; clear BK242; clear BK243; clear BK244; clear HB; have HO282 := n0_; have BK242 := n1_; have BK243 := n2_; have BK244 := n3_; have HB := n4_; clear n0_ n1_ n2_ n3_ n4_; (try clear hb); obtain ⟨hcz159_0, hcz159_1, hfz159_0, hfz159_1⟩ := sqc2 BK244))
                                          refine bodyPost_ret (results_cell_row rfl _ _ gb244 26 #[.int .i64 t284, .int .i64 t285] (0, 0) _ rfl (by refine sqt ?_; refine blk_put (cs := #[.int .i64 t284, .int .i64 0]) ?_ 1 _ rfl; refine sqt ?_; refine blk_put (cs := #[.int .i64 0, .int .i64 0]) ?_ 0 _ rfl; refine sqt ?_; exact BK244.out) Try.underlying26 rfl (by kernel_rfl)) rfl ?_
                                          exact sqe HB
                                        · rw [if_neg c148] at H
                                          have c148b0 : (t283 == 0) = false := beq_eq_false_iff_ne.mpr c148
                                          have c148b1 : (t283 != 0) = true := bne_iff_ne.mpr c148
                                          replace H := Option.bind_eq_some_iff.mp H
                                          obtain ⟨⟨t286, t287⟩, A1600, H⟩ := H
                                          replace H : (some (t286, t287)) = some (r1, r2) := H
                                          have A160 := Aside0.mk A1600
                                          clear A1600
                                          simp only [Option.some.injEq, Prod.mk.injEq] at H
                                          obtain ⟨rfl, rfl⟩ := H
                                          have hnb161 := NB242_243.out
                                          have hnc161 := NB243_242.out
                                          have hnb162 := NB242_244.out
                                          have hnc162 := NB244_242.out
                                          obtain ⟨hcz163_0, hcz163_1, hfz163_0, hfz163_1⟩ := sqc2 BK242
                                          have hnb164 := NB243_244.out
                                          have hnc164 := NB244_243.out
                                          obtain ⟨hcz165_0, hcz165_1, hfz165_0, hfz165_1⟩ := sqc2 BK243
                                          go_wp2_with (first | ((with_reducible refine gate_dst (N := 156) rfl ?_); refine Kd.R_lit (Kd.int .i64) _ 3 ?hg (N := 156) ?hd (xs := ([a1_0, a2_0, a2_1] : List Int)) (inner := [.int .i64 a1_0, .int .i64 a2_0, .int .i64 a2_1]) (ok := fun _ => True) (okp := fun _ => True) ?hr ?hp (fun _ hk => hk) trivial (Below.refl _ _) (Nat.le_refl _) (by simp) ?_; (case hd => rfl); (case hg => rfl); (case hr => first | (go_simp; done) | (go_simp; rfl)); (case hp => exact (Reps.one (show Kd.M (Kd.int .i64) _ _ _ a1_0 [.int .i64 a1_0] from rfl) (Reps.one (show Kd.M (Kd.int .i64) _ _ _ a2_0 [.int .i64 a2_0] from rfl) (Reps.one (show Kd.M (Kd.int .i64) _ _ _ a2_1 [.int .i64 a2_1] from rfl) (Reps.none _ _))))); intro v281 w166 ho167 hb hg_ hnew_; clear hg_ hnew_; (first | rw [← Ny280.out] at ho167 | (simp only [Int.reduceToNat] at ho167; rw [← Ny280.out] at ho167)); have HO282 := Aside0.mk (Kd.R_lower ho167 (below_size (by repeat (first | (with_reducible first | exact HB.out | apply below_alloc | apply pw_below_drewN | apply below_drew1 | refine below_set ?_ GE242.out | refine below_set ?_ GE243.out | refine below_set ?_ GE244.out) | exact HB.out)))); replace BK242 := sqb BK242 hb; replace BK243 := sqb BK243 hb; replace BK244 := sqb BK244 hb; replace HB := sqs HB hb; clear hb ho167; obtain ⟨Ao168, co168, eo168⟩ := Kd.R_slice HO282.out; subst eo168) | ((with_reducible refine gate_callee (f := 152) rfl ?_); refine sqL (some 157) Try.func152 #[.slice Ao168 y280.length co168] ?_; (with_reducible refine (impl_restGcd.calls kj84 _ _ y280 t283 _ ?side1 ?side2 A147.out).mono ?_); (case side1 => repeat (first | exact (Kd.R_reads' HO282.out).2.2 | (with_reducible refine Kd.C_alloc ?_ _) | (with_reducible refine Kd.C_drewN ?_ _) | (with_reducible refine Kd.C_drew ?_))); (case side2 => exact (Kd.R_reads' HO282.out).2.1); rintro e w' ⟨rfl, ⟨nd, rfl⟩⟩; refine ⟨_, rfl, ?_⟩; (try (rw [drewN_self w166]; generalize hq_ : World.drewN w166 _ = w166; have n0_ : Aside0 (Kd.R (Kd.int .i64) 3 w166 w.heap.size (fun _ => True) (.slice Ao168 y280.length co168) y280) := ⟨by rw [← hq_]; exact (by (with_reducible repeat (first | apply Kd.R_alloc | apply Kd.R_drewN | apply Kd.R_drew)); exact HO282.out)⟩; have n1_ : Aside0 (w166.heap[gb242]? = some (.cells #[.int .i64 a1_0, .int .i64 a1_1] 26 (0, 0))) := ⟨by rw [← hq_]; exact (by refine sqt ?_; exact BK242.out)⟩; have n2_ : Aside0 (w166.heap[gb243]? = some (.cells #[.int .i64 a2_0, .int .i64 a2_1] 26 (0, 0))) := ⟨by rw [← hq_]; exact (by refine sqt ?_; exact BK243.out)⟩; have n3_ : Aside0 (w166.heap[gb244]? = some (.cells #[.int .i64 0, .int .i64 0] 26 (0, 0))) := ⟨by rw [← hq_]; exact (by refine sqt ?_; exact BK244.out)⟩; have n4_ : Aside0 (Below w.heap.size w w166) := ⟨by rw [← hq_]; exact (by repeat (first | (with_reducible first | exact HB.out | apply below_alloc | apply pw_below_drewN | apply below_drew1 | refine below_set ?_ GE242.out | refine below_set ?_ GE243.out | refine below_set ?_ GE244.out) | exact HB.out))⟩; clear HO282 BK242 BK243 BK244 HB hq_; have HO282 := n0_; have BK242 := n1_; have BK243 := n2_; have BK244 := n3_; have HB := n4_; clear n0_ n1_ n2_ n3_ n4_)); obtain ⟨hcz169_0, hcz169_1, hfz169_0, hfz169_1⟩ := sqc2 BK242) | ((with_reducible refine gate_callee (f := 151) rfl ?_); refine sqL (some 163) Try.func151 #[.int .i64 a1_1, .int .i64 t283] ?_; (with_reducible refine (impl_restOf.calls kj84 a1_1 t283 t286 t287 _ A160.out).mono ?_); rintro e w170 ⟨rfl, hb⟩; refine ⟨_, rfl, ?_⟩; have n0_ := Aside0.mk (Kd.R_below (by (with_reducible repeat (first | apply Kd.R_alloc | apply Kd.R_drewN | apply Kd.R_drew)); exact HO282.out) hb); have n1_ := sqb BK242 hb; have n2_ := sqb BK243 hb; have n3_ := sqb BK244 hb; have n4_ := sqs HB hb; clear HO282; clear BK242; clear BK243; clear BK244; clear HB; have HO282 := n0_; have BK242 := n1_; have BK243 := n2_; have BK244 := n3_; have HB := n4_; clear n0_ n1_ n2_ n3_ n4_; (try clear hb); obtain ⟨hcz171_0, hcz171_1, hfz171_0, hfz171_1⟩ := sqc2 BK244))
                                          refine bodyPost_ret (results_cell_row rfl _ _ gb244 26 #[.int .i64 t286, .int .i64 t287] (0, 0) _ rfl (by refine sqt ?_; refine blk_put (cs := #[.int .i64 t286, .int .i64 0]) ?_ 1 _ rfl; refine sqt ?_; refine blk_put (cs := #[.int .i64 0, .int .i64 0]) ?_ 0 _ rfl; refine sqt ?_; exact BK244.out) Try.underlying26 rfl (by kernel_rfl)) rfl ?_
                                          exact sqe HB
                                      · rw [if_neg c146] at H
                                        have c146b0 : (a0 == 5) = false := beq_eq_false_iff_ne.mpr c146
                                        have c146b1 : (a0 != 5) = true := bne_iff_ne.mpr c146
                                        replace H := Option.bind_eq_some_iff.mp H
                                        obtain ⟨⟨t288, t289⟩, A1720, H⟩ := H
                                        replace H : (some (t288, t289)) = some (r1, r2) := H
                                        have A172 := Aside0.mk A1720
                                        clear A1720
                                        simp only [Option.some.injEq, Prod.mk.injEq] at H
                                        obtain ⟨rfl, rfl⟩ := H
                                        go_wp2_with (first | ((with_reducible refine gate_callee (f := 150) rfl ?_); refine sqL (some 164) Try.func150 #[] ?_; (with_reducible refine (impl_restAll.calls  t288 t289 _ A172.out).mono ?_); rintro e w173 ⟨rfl, hb⟩; refine ⟨_, rfl, ?_⟩; replace BK242 := sqb BK242 hb; replace BK243 := sqb BK243 hb; replace BK244 := sqb BK244 hb; replace HB := sqs HB hb; (try clear hb); have hnb174 := NB244_242.out; have hnc174 := NB242_244.out; have hnb175 := NB244_243.out; have hnc175 := NB243_244.out; obtain ⟨hcz176_0, hcz176_1, hfz176_0, hfz176_1⟩ := sqc2 BK244))
                                        refine bodyPost_ret (results_cell_row rfl _ _ gb244 26 #[.int .i64 t288, .int .i64 t289] (0, 0) _ rfl (by refine sqt ?_; refine blk_put (cs := #[.int .i64 t288, .int .i64 0]) ?_ 1 _ rfl; refine sqt ?_; refine blk_put (cs := #[.int .i64 0, .int .i64 0]) ?_ 0 _ rfl; refine sqt ?_; exact BK244.out) Try.underlying26 rfl (by kernel_rfl)) rfl ?_
                                        exact sqe HB

end Go.Proofs.Ytkekcenlleebeaa.PFnRestDo
