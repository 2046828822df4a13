/- Functions of the program as plain Lean functions, and that calls of them come to what these tell. Conditions: those in each law. -/
import Derived.Test.YtkekcenlleebeaaSq
import Derived.Test.YtkekcenlleebeaaDFnRestDo
import Derived.Test.YtkekcenlleebeaaQFnRestDox0
import Derived.Test.YtkekcenlleebeaaQFnRestDox2
import Derived.Test.YtkekcenlleebeaaQFnRestDox3
import Derived.Test.YtkekcenlleebeaaQFnRestDox10
namespace Go.Proofs.Ytkekcenlleebeaa.PFnRestDo
open Go.RowKit Go.Proofs.Ytkekcenlleebeaa.Sq Go.Proofs.YtkekcenlleebeaaW.PrintWords Go.Proofs.YtkekcenlleebeaaW.PrintLast Go.Proofs.YtkekcenlleebeaaW.PrintMore
attribute [local go_sem] max2_int min2_int max_two min_two max_three min_three max_four min_four   -- for this text's walks alone
set_option linter.unusedVariables false
set_option linter.unusedSimpArgs false

/-! ### spec_RestDo: function 64 -/
theorem spec_RestDo.mono_l : ∀ k, (∀ y0 y1 y2 y3 y4 y5, LeO (spec_RestDo.j0 k y0 y1 y2 y3 y4 y5) (spec_RestDo.j0 (k + 1) y0 y1 y2 y3 y4 y5)) ∧ (∀ y0 y1 y2 y3 y4 y5, LeO (spec_RestDo.j1 k y0 y1 y2 y3 y4 y5) (spec_RestDo.j1 (k + 1) y0 y1 y2 y3 y4 y5)) ∧ (∀ y0 y1 y2 y3 y4 y5 y6, LeO (spec_RestDo.j2 k y0 y1 y2 y3 y4 y5 y6) (spec_RestDo.j2 (k + 1) y0 y1 y2 y3 y4 y5 y6)) ∧ (∀ y0 y1 y2 y3 y4 y5 y6, LeO (spec_RestDo.j3 k y0 y1 y2 y3 y4 y5 y6) (spec_RestDo.j3 (k + 1) y0 y1 y2 y3 y4 y5 y6)) ∧ (∀ y0 y1 y2 y3 y4 y5 y6, LeO (spec_RestDo.j4 k y0 y1 y2 y3 y4 y5 y6) (spec_RestDo.j4 (k + 1) y0 y1 y2 y3 y4 y5 y6)) ∧ (∀ y0 y1 y2 y3 y4 y5 y6, LeO (spec_RestDo.j5 k y0 y1 y2 y3 y4 y5 y6) (spec_RestDo.j5 (k + 1) y0 y1 y2 y3 y4 y5 y6))
  | 0 => ⟨fun _ _ _ _ _ _ r h => by simp [spec_RestDo.j0] at h, fun _ _ _ _ _ _ r h => by simp [spec_RestDo.j1] at h, fun _ _ _ _ _ _ _ r h => by simp [spec_RestDo.j2] at h, fun _ _ _ _ _ _ _ r h => by simp [spec_RestDo.j3] at h, fun _ _ _ _ _ _ _ r h => by simp [spec_RestDo.j4] at h, fun _ _ _ _ _ _ _ r h => by simp [spec_RestDo.j5] at h⟩
  | k + 1 => by
    obtain ⟨ih0, ih1, ih2, ih3, ih4, ih5⟩ := spec_RestDo.mono_l k
    refine ⟨?_, ?_, ?_, ?_, ?_, ?_⟩
    · intro y0 y1 y2 y3 y4 y5
      unfold spec_RestDo.j0
      repeat' first
      | (with_reducible exact ih0 _ _ _ _ _ _)
      | (with_reducible exact ih1 _ _ _ _ _ _)
      | (with_reducible exact ih2 _ _ _ _ _ _ _)
      | (with_reducible exact ih3 _ _ _ _ _ _ _)
      | (with_reducible exact ih4 _ _ _ _ _ _ _)
      | (with_reducible exact ih5 _ _ _ _ _ _ _)
      | (with_reducible exact spec_NumDo.mono _ _ _ _)
      | (with_reducible exact spec_l1Power.mono _ _)
      | (with_reducible exact spec_l9Gcd.mono _ _ _)
      | (with_reducible exact spec_l9Make.mono _ _ _)
      | (with_reducible exact LeO.refl _)
      | (with_reducible exact LeO.none _)
      | (with_reducible refine LeO.ite ?_ ?_)
      | (with_reducible refine LeO.bind ?_ (fun _ => ?_))
      | exact ih0 _ _ _ _ _ _
      | exact ih1 _ _ _ _ _ _
      | exact ih2 _ _ _ _ _ _ _
      | exact ih3 _ _ _ _ _ _ _
      | exact ih4 _ _ _ _ _ _ _
      | exact ih5 _ _ _ _ _ _ _
      | exact spec_NumDo.mono _ _ _ _
      | exact spec_l1Power.mono _ _
      | exact spec_l9Gcd.mono _ _ _
      | exact spec_l9Make.mono _ _ _
      | exact LeO.none _
      | refine LeO.ite ?_ ?_
      | refine LeO.bind ?_ (fun _ => ?_)
    · intro y0 y1 y2 y3 y4 y5
      unfold spec_RestDo.j1
      repeat' first
      | (with_reducible exact ih0 _ _ _ _ _ _)
      | (with_reducible exact ih1 _ _ _ _ _ _)
      | (with_reducible exact ih2 _ _ _ _ _ _ _)
      | (with_reducible exact ih3 _ _ _ _ _ _ _)
      | (with_reducible exact ih4 _ _ _ _ _ _ _)
      | (with_reducible exact ih5 _ _ _ _ _ _ _)
      | (with_reducible exact spec_NumDo.mono _ _ _ _)
      | (with_reducible exact spec_l1Power.mono _ _)
      | (with_reducible exact spec_l9Gcd.mono _ _ _)
      | (with_reducible exact spec_l9Make.mono _ _ _)
      | (with_reducible exact LeO.refl _)
      | (with_reducible exact LeO.none _)
      | (with_reducible refine LeO.ite ?_ ?_)
      | (with_reducible refine LeO.bind ?_ (fun _ => ?_))
      | exact ih0 _ _ _ _ _ _
      | exact ih1 _ _ _ _ _ _
      | exact ih2 _ _ _ _ _ _ _
      | exact ih3 _ _ _ _ _ _ _
      | exact ih4 _ _ _ _ _ _ _
      | exact ih5 _ _ _ _ _ _ _
      | exact spec_NumDo.mono _ _ _ _
      | exact spec_l1Power.mono _ _
      | exact spec_l9Gcd.mono _ _ _
      | exact spec_l9Make.mono _ _ _
      | exact LeO.none _
      | refine LeO.ite ?_ ?_
      | refine LeO.bind ?_ (fun _ => ?_)
    · intro y0 y1 y2 y3 y4 y5 y6
      unfold spec_RestDo.j2
      repeat' first
      | (with_reducible exact ih0 _ _ _ _ _ _)
      | (with_reducible exact ih1 _ _ _ _ _ _)
      | (with_reducible exact ih2 _ _ _ _ _ _ _)
      | (with_reducible exact ih3 _ _ _ _ _ _ _)
      | (with_reducible exact ih4 _ _ _ _ _ _ _)
      | (with_reducible exact ih5 _ _ _ _ _ _ _)
      | (with_reducible exact spec_NumDo.mono _ _ _ _)
      | (with_reducible exact spec_l1Power.mono _ _)
      | (with_reducible exact spec_l9Gcd.mono _ _ _)
      | (with_reducible exact spec_l9Make.mono _ _ _)
      | (with_reducible exact LeO.refl _)
      | (with_reducible exact LeO.none _)
      | (with_reducible refine LeO.ite ?_ ?_)
      | (with_reducible refine LeO.bind ?_ (fun _ => ?_))
      | exact ih0 _ _ _ _ _ _
      | exact ih1 _ _ _ _ _ _
      | exact ih2 _ _ _ _ _ _ _
      | exact ih3 _ _ _ _ _ _ _
      | exact ih4 _ _ _ _ _ _ _
      | exact ih5 _ _ _ _ _ _ _
      | exact spec_NumDo.mono _ _ _ _
      | exact spec_l1Power.mono _ _
      | exact spec_l9Gcd.mono _ _ _
      | exact spec_l9Make.mono _ _ _
      | exact LeO.none _
      | refine LeO.ite ?_ ?_
      | refine LeO.bind ?_ (fun _ => ?_)
    · intro y0 y1 y2 y3 y4 y5 y6
      unfold spec_RestDo.j3
      repeat' first
      | (with_reducible exact ih0 _ _ _ _ _ _)
      | (with_reducible exact ih1 _ _ _ _ _ _)
      | (with_reducible exact ih2 _ _ _ _ _ _ _)
      | (with_reducible exact ih3 _ _ _ _ _ _ _)
      | (with_reducible exact ih4 _ _ _ _ _ _ _)
      | (with_reducible exact ih5 _ _ _ _ _ _ _)
      | (with_reducible exact spec_NumDo.mono _ _ _ _)
      | (with_reducible exact spec_l1Power.mono _ _)
      | (with_reducible exact spec_l9Gcd.mono _ _ _)
      | (with_reducible exact spec_l9Make.mono _ _ _)
      | (with_reducible exact LeO.refl _)
      | (with_reducible exact LeO.none _)
      | (with_reducible refine LeO.ite ?_ ?_)
      | (with_reducible refine LeO.bind ?_ (fun _ => ?_))
      | exact ih0 _ _ _ _ _ _
      | exact ih1 _ _ _ _ _ _
      | exact ih2 _ _ _ _ _ _ _
      | exact ih3 _ _ _ _ _ _ _
      | exact ih4 _ _ _ _ _ _ _
      | exact ih5 _ _ _ _ _ _ _
      | exact spec_NumDo.mono _ _ _ _
      | exact spec_l1Power.mono _ _
      | exact spec_l9Gcd.mono _ _ _
      | exact spec_l9Make.mono _ _ _
      | exact LeO.none _
      | refine LeO.ite ?_ ?_
      | refine LeO.bind ?_ (fun _ => ?_)
    · intro y0 y1 y2 y3 y4 y5 y6
      unfold spec_RestDo.j4
      repeat' first
      | (with_reducible exact ih0 _ _ _ _ _ _)
      | (with_reducible exact ih1 _ _ _ _ _ _)
      | (with_reducible exact ih2 _ _ _ _ _ _ _)
      | (with_reducible exact ih3 _ _ _ _ _ _ _)
      | (with_reducible exact ih4 _ _ _ _ _ _ _)
      | (with_reducible exact ih5 _ _ _ _ _ _ _)
      | (with_reducible exact spec_NumDo.mono _ _ _ _)
      | (with_reducible exact spec_l1Power.mono _ _)
      | (with_reducible exact spec_l9Gcd.mono _ _ _)
      | (with_reducible exact spec_l9Make.mono _ _ _)
      | (with_reducible exact LeO.refl _)
      | (with_reducible exact LeO.none _)
      | (with_reducible refine LeO.ite ?_ ?_)
      | (with_reducible refine LeO.bind ?_ (fun _ => ?_))
      | exact ih0 _ _ _ _ _ _
      | exact ih1 _ _ _ _ _ _
      | exact ih2 _ _ _ _ _ _ _
      | exact ih3 _ _ _ _ _ _ _
      | exact ih4 _ _ _ _ _ _ _
      | exact ih5 _ _ _ _ _ _ _
      | exact spec_NumDo.mono _ _ _ _
      | exact spec_l1Power.mono _ _
      | exact spec_l9Gcd.mono _ _ _
      | exact spec_l9Make.mono _ _ _
      | exact LeO.none _
      | refine LeO.ite ?_ ?_
      | refine LeO.bind ?_ (fun _ => ?_)
    · intro y0 y1 y2 y3 y4 y5 y6
      unfold spec_RestDo.j5
      repeat' first
      | (with_reducible exact ih0 _ _ _ _ _ _)
      | (with_reducible exact ih1 _ _ _ _ _ _)
      | (with_reducible exact ih2 _ _ _ _ _ _ _)
      | (with_reducible exact ih3 _ _ _ _ _ _ _)
      | (with_reducible exact ih4 _ _ _ _ _ _ _)
      | (with_reducible exact ih5 _ _ _ _ _ _ _)
      | (with_reducible exact spec_NumDo.mono _ _ _ _)
      | (with_reducible exact spec_l1Power.mono _ _)
      | (with_reducible exact spec_l9Gcd.mono _ _ _)
      | (with_reducible exact spec_l9Make.mono _ _ _)
      | (with_reducible exact LeO.refl _)
      | (with_reducible exact LeO.none _)
      | (with_reducible refine LeO.ite ?_ ?_)
      | (with_reducible refine LeO.bind ?_ (fun _ => ?_))
      | exact ih0 _ _ _ _ _ _
      | exact ih1 _ _ _ _ _ _
      | exact ih2 _ _ _ _ _ _ _
      | exact ih3 _ _ _ _ _ _ _
      | exact ih4 _ _ _ _ _ _ _
      | exact ih5 _ _ _ _ _ _ _
      | exact spec_NumDo.mono _ _ _ _
      | exact spec_l1Power.mono _ _
      | exact spec_l9Gcd.mono _ _ _
      | exact spec_l9Make.mono _ _ _
      | exact LeO.none _
      | refine LeO.ite ?_ ?_
      | refine LeO.bind ?_ (fun _ => ?_)
theorem spec_RestDo.mono : ∀ a0 a1 a2 a3 a4 k, LeO (spec_RestDo.f k a0 a1 a2 a3 a4) (spec_RestDo.f (k + 1) a0 a1 a2 a3 a4) := by
  intro a0 a1 a2 a3 a4 k
  obtain ⟨ih0, ih1, ih2, ih3, ih4, ih5⟩ := spec_RestDo.mono_l k
  unfold spec_RestDo.f
  repeat' first
      | (with_reducible exact ih0 _ _ _ _ _ _)
      | (with_reducible exact ih1 _ _ _ _ _ _)
      | (with_reducible exact ih2 _ _ _ _ _ _ _)
      | (with_reducible exact ih3 _ _ _ _ _ _ _)
      | (with_reducible exact ih4 _ _ _ _ _ _ _)
      | (with_reducible exact ih5 _ _ _ _ _ _ _)
      | (with_reducible exact spec_NumDo.mono _ _ _ _)
      | (with_reducible exact spec_l1Power.mono _ _)
      | (with_reducible exact spec_l9Gcd.mono _ _ _)
      | (with_reducible exact spec_l9Make.mono _ _ _)
      | (with_reducible exact LeO.refl _)
      | (with_reducible exact LeO.none _)
      | (with_reducible refine LeO.ite ?_ ?_)
      | (with_reducible refine LeO.bind ?_ (fun _ => ?_))
      | exact ih0 _ _ _ _ _ _
      | exact ih1 _ _ _ _ _ _
      | exact ih2 _ _ _ _ _ _ _
      | exact ih3 _ _ _ _ _ _ _
      | exact ih4 _ _ _ _ _ _ _
      | exact ih5 _ _ _ _ _ _ _
      | exact spec_NumDo.mono _ _ _ _
      | exact spec_l1Power.mono _ _
      | exact spec_l9Gcd.mono _ _ _
      | exact spec_l9Make.mono _ _ _
      | exact LeO.none _
      | refine LeO.ite ?_ ?_
      | refine LeO.bind ?_ (fun _ => ?_)
def spec_RestDo.T10 : Bool × List (List Nat × List Nat) := (true, [([], []), ([0], [0]), ([], []), ([2], [2]), ([1, 3], [1, 3]), ([], []), ([4, 5, 4], [4, 5]), ([], []), ([7], [7]), ([], []), ([9], [9]), ([8, 10], [8, 10]), ([6, 11, 6], [6, 11]), ([12, 12, 0, 1, 2, 3, 4, 5, 6, 7, 8, 9, 10, 11, 12], [12])])
def spec_RestDo.B10 : List Nat := [0, 1, 0, 4, 15, 0, 63, 0, 128, 0, 512, 1920, 4095, 8191]
theorem spec_RestDo.tab10 : rtab .any (opsOf Try.f64 10) = spec_RestDo.T10 := by kernel_rfl
theorem spec_RestDo.bits10 : waitsOk spec_RestDo.T10.2 spec_RestDo.B10 = true := by kernel_rfl
def spec_RestDo.T12 : Bool × List (List Nat × List Nat) := (true, [([], []), ([0], [0]), ([], []), ([2], [2]), ([1, 3], [1, 3]), ([], []), ([4, 5, 4], [4, 5]), ([], []), ([7], [7]), ([], []), ([9], [9]), ([8, 10], [8, 10]), ([6, 11, 6], [6, 11]), ([12, 12, 0, 1, 2, 3, 4, 5, 6, 7, 8, 9, 10, 11, 12], [12])])
def spec_RestDo.B12 : List Nat := [0, 1, 0, 4, 15, 0, 63, 0, 128, 0, 512, 1920, 4095, 8191]
theorem spec_RestDo.tab12 : rtab .any (opsOf Try.f64 12) = spec_RestDo.T12 := by kernel_rfl
theorem spec_RestDo.bits12 : waitsOk spec_RestDo.T12.2 spec_RestDo.B12 = true := by kernel_rfl
def spec_RestDo.T14 : Bool × List (List Nat × List Nat) := (true, [([], []), ([0], [0]), ([], []), ([2], [2]), ([3], [3]), ([1, 4], [1, 4]), ([], []), ([6], [6]), ([], []), ([8], [8]), ([9, 4], [9]), ([7, 10], [7, 10]), ([5, 11, 10], [5, 11]), ([12, 12, 0, 1, 2, 3, 4, 5, 6, 7, 8, 9, 10, 11, 12], [12])])
def spec_RestDo.B14 : List Nat := [0, 1, 0, 4, 12, 31, 0, 64, 0, 256, 796, 2012, 4095, 8191]
theorem spec_RestDo.tab14 : rtab .any (opsOf Try.f64 14) = spec_RestDo.T14 := by kernel_rfl
theorem spec_RestDo.bits14 : waitsOk spec_RestDo.T14.2 spec_RestDo.B14 = true := by kernel_rfl
def spec_RestDo.T16 : Bool × List (List Nat × List Nat) := (true, [([], []), ([0], [0]), ([], []), ([2], [2]), ([1, 3], [1, 3]), ([], []), ([5], [5]), ([], []), ([7], [7]), ([6, 8], [6, 8]), ([4, 9], [4, 9]), ([], []), ([11], [11]), ([], []), ([13], [13]), ([12, 14], [12, 14]), ([10, 15, 10], [10, 15]), ([16, 16, 0, 1, 2, 3, 4, 5, 6, 7, 8, 9, 10, 11, 12, 13, 14, 15, 16], [16])])
def spec_RestDo.B16 : List Nat := [0, 1, 0, 4, 15, 0, 32, 0, 128, 480, 1023, 0, 2048, 0, 8192, 30720, 65535, 131071]
theorem spec_RestDo.tab16 : rtab .any (opsOf Try.f64 16) = spec_RestDo.T16 := by kernel_rfl
theorem spec_RestDo.bits16 : waitsOk spec_RestDo.T16.2 spec_RestDo.B16 = true := by kernel_rfl
def spec_RestDo.T19 : Bool × List (List Nat × List Nat) := (true, [([], []), ([], []), ([0, 1], [0, 1]), ([], []), ([3], [3]), ([], []), ([5], [5]), ([4, 6], [4, 6]), ([2, 7, 2], [2, 7]), ([8, 8, 0, 1, 2, 3, 4, 5, 6, 7, 8], [8])])
def spec_RestDo.B19 : List Nat := [0, 0, 3, 0, 8, 0, 32, 120, 255, 511]
theorem spec_RestDo.tab19 : rtab .any (opsOf Try.f64 19) = spec_RestDo.T19 := by kernel_rfl
theorem spec_RestDo.bits19 : waitsOk spec_RestDo.T19.2 spec_RestDo.B19 = true := by kernel_rfl
def spec_RestDo.T21 : Bool × List (List Nat × List Nat) := (true, [([], []), ([0], [0]), ([], []), ([2], [2]), ([], []), ([4], [4]), ([3, 5], [3, 5]), ([1, 6, 6], [1, 6]), ([7, 7, 0, 1, 2, 3, 4, 5, 6, 7], [7])])
def spec_RestDo.B21 : List Nat := [0, 1, 0, 4, 0, 16, 60, 127, 255]
theorem spec_RestDo.tab21 : rtab .any (opsOf Try.f64 21) = spec_RestDo.T21 := by kernel_rfl
theorem spec_RestDo.bits21 : waitsOk spec_RestDo.T21.2 spec_RestDo.B21 = true := by kernel_rfl
set_option maxHeartbeats 8000000 in
set_option maxRecDepth 100000 in
theorem spec_RestDo.calls (k : Nat) (a0 : Int) (a1_0 : Int) (a1_1 : Int) (a2_0 : Int) (a2_1 : Int) (r1 : Int) (r2 : Int) (w : World) (h : spec_RestDo.f k a0 a1_0 a1_1 a2_0 a2_1 = some (r1, r2)) :
    Calls Try.prog 64 #[.int .i64 a0, .agg #[.int .i64 a1_0, .int .i64 a1_1], .agg #[.int .i64 a2_0, .int .i64 a2_1]] w fun e w' => e = .returned (.agg #[.int .i64 r1, .int .i64 r2]) ∧ Below w.heap.size w w' := by
  have hu26 := Try.underlying26
  have HB := Aside0.mk (Below.refl w.heap.size w)
  have H : ((spec_l1In.f a0 1 13).bind fun t313 => (if t313 = true then ((spec_RestOk.f a1_0 a1_1).bind fun t314 => (if t314 = true then ((spec_RestOk.f a2_0 a2_1).bind fun t315 => (spec_RestDo.j0 k a0 (!t315) a1_0 a1_1 a2_0 a2_1)) else (spec_RestDo.j0 k a0 true a1_0 a1_1 a2_0 a2_1))) else (spec_RestDo.j0 k a0 true a1_0 a1_1 a2_0 a2_1))) = some (r1, r2) := h
  clear h
  have HC4 := Aside0.mk H
  clear H
  go_enter Try.func64, Try.ntmps64
  go_upto_region 1 with (first | ((with_reducible refine gate_dst (N := 4) rfl ?_); refine sqx 4 #[.int .i64 a1_0, .int .i64 a1_1] 26 ?_; intro gb310 hg w5 hbox hb; have BK310 := Aside0.mk (hbox); have GW310 := sqg HB hg; have GE310 := sqg HB hg; replace HB := sqs HB hb; clear hb hbox hg) | ((with_reducible refine gate_dst (N := 5) rfl ?_); refine sqx 5 #[.int .i64 a2_0, .int .i64 a2_1] 26 ?_; intro gb311 hg w6 hbox hb; have BK311 := Aside0.mk (hbox); have GW311 := sqg HB hg; have GE311 := sqg HB hg; have NB310_311 := sqn BK310 hg; have NB311_310 := sqm BK310 hg; replace BK310 := sqb BK310 hb; replace HB := sqs HB hb; clear hb hbox hg) | ((with_reducible refine gate_dst (N := 6) rfl ?_); refine sqx 6 #[.int .i64 0, .int .i64 0] 26 ?_; intro gb312 hg w7 hbox hb; have BK312 := Aside0.mk (hbox); have GW312 := sqg HB hg; have GE312 := sqg HB hg; have NB310_312 := sqn BK310 hg; have NB312_310 := sqm BK310 hg; have NB311_312 := sqn BK311 hg; have NB312_311 := sqm BK311 hg; replace BK310 := sqb BK310 hb; replace BK311 := sqb BK311 hb; replace HB := sqs HB hb; clear hb hbox hg))
  (try simp only [Act.put, List.setIfInBounds_toArray, List.set_cons_zero, List.set_cons_succ])
  go_cut [24] (fun v24 wc => ∃ (kq : Nat) (x24_3 : Bool), v24 = .bool x24_3 ∧ Aside0 (spec_RestDo.j0 kq a0 x24_3 a1_0 a1_1 a2_0 a2_1 = some (r1, r2)) ∧ Aside0 (kq ≤ k) ∧ Aside0 (wc.heap[gb310]? = some (.cells #[.int .i64 a1_0, .int .i64 a1_1] 26 (0, 0))) ∧ Aside0 (wc.heap[gb311]? = some (.cells #[.int .i64 a2_0, .int .i64 a2_1] 26 (0, 0))) ∧ Aside0 (wc.heap[gb312]? = some (.cells #[.int .i64 0, .int .i64 0] 26 (0, 0))) ∧ Aside0 (Below w.heap.size w wc))
  case first =>
    have H := HC4.out
    clear HC4
    replace H := Option.bind_eq_some_iff.mp H
    obtain ⟨t313, A80, H⟩ := H
    replace H : (if t313 = true then ((spec_RestOk.f a1_0 a1_1).bind fun t314 => (if t314 = true then ((spec_RestOk.f a2_0 a2_1).bind fun t315 => (spec_RestDo.j0 k a0 (!t315) a1_0 a1_1 a2_0 a2_1)) else (spec_RestDo.j0 k a0 true a1_0 a1_1 a2_0 a2_1))) else (spec_RestDo.j0 k a0 true a1_0 a1_1 a2_0 a2_1)) = some (r1, r2) := H
    have A8 := Aside0.mk A80
    clear A80
    by_cases c9 : t313 = true
    · subst c9
      have H1 : ((spec_RestOk.f a1_0 a1_1).bind fun t314 => (if t314 = true then ((spec_RestOk.f a2_0 a2_1).bind fun t315 => (spec_RestDo.j0 k a0 (!t315) a1_0 a1_1 a2_0 a2_1)) else (spec_RestDo.j0 k a0 true a1_0 a1_1 a2_0 a2_1))) = some (r1, r2) := by rw [if_pos rfl] at H; exact H
      clear H
      have H := H1
      clear H1
      replace H := Option.bind_eq_some_iff.mp H
      obtain ⟨t314, A100, H⟩ := H
      replace H : (if t314 = true then ((spec_RestOk.f a2_0 a2_1).bind fun t315 => (spec_RestDo.j0 k a0 (!t315) a1_0 a1_1 a2_0 a2_1)) else (spec_RestDo.j0 k a0 true a1_0 a1_1 a2_0 a2_1)) = some (r1, r2) := H
      have A10 := Aside0.mk A100
      clear A100
      by_cases c11 : t314 = true
      · subst c11
        have H1 : ((spec_RestOk.f a2_0 a2_1).bind fun t315 => (spec_RestDo.j0 k a0 (!t315) a1_0 a1_1 a2_0 a2_1)) = some (r1, r2) := by rw [if_pos rfl] at H; exact H
        clear H
        have H := H1
        clear H1
        replace H := Option.bind_eq_some_iff.mp H
        obtain ⟨t315, A120, H⟩ := H
        replace H : (spec_RestDo.j0 k a0 (!t315) a1_0 a1_1 a2_0 a2_1) = some (r1, r2) := H
        have A12 := Aside0.mk A120
        clear A120
        have H' := Aside0.mk H
        clear H
        go_wp2_with (first | ((with_reducible refine gate_callee (f := 105) rfl ?_); refine sqL (some 13) Try.func105 #[.int .i64 a0, .int .i64 1, .int .i64 13] ?_; (with_reducible refine (spec_l1In.calls a0 1 13 true _ A8.out).mono ?_); rintro e w' ⟨rfl, ⟨nd, rfl⟩⟩; refine ⟨_, rfl, ?_⟩; have hnb13 := NB310_311.out; have hnc13 := NB311_310.out; have hnb14 := NB310_312.out; have hnc14 := NB312_310.out; obtain ⟨hcz15_0, hcz15_1, hfz15_0, hfz15_1⟩ := sqc2 BK310) | (go_at_call 66; (with_reducible refine (spec_RestOk.calls a1_0 a1_1 true _ A10.out).mono ?_); rintro e w16 ⟨rfl, hb⟩; replace BK310 := sqb BK310 hb; replace BK311 := sqb BK311 hb; replace BK312 := sqb BK312 hb; replace HB := sqs HB hb; (try clear hb); have hnb17 := NB311_312.out; have hnc17 := NB312_311.out; obtain ⟨hcz18_0, hcz18_1, hfz18_0, hfz18_1⟩ := sqc2 BK311) | (go_at_call 66; (with_reducible refine (spec_RestOk.calls a2_0 a2_1 t315 _ A12.out).mono ?_); rintro e w19 ⟨rfl, hb⟩; replace BK310 := sqb BK310 hb; replace BK311 := sqb BK311 hb; replace BK312 := sqb BK312 hb; replace HB := sqs HB hb; (try clear hb)))
        go_meet
        case rel => exact ⟨_, (!t315), (by first | rfl | (simp; done) | (simp [*]; done)), H', ⟨by first | omega | exact Nat.le_refl _⟩, sqk BK310, sqk BK311, sqk BK312, sqh HB⟩
      · replace c11 := Bool.eq_false_iff.mpr c11
        subst c11
        have H1 : (spec_RestDo.j0 k a0 true a1_0 a1_1 a2_0 a2_1) = some (r1, r2) := by rw [if_neg (show ¬ (false = true) by decide)] at H; exact H
        clear H
        have H := H1
        clear H1
        have H' := Aside0.mk H
        clear H
        go_wp2_with (first | ((with_reducible refine gate_callee (f := 105) rfl ?_); refine sqL (some 13) Try.func105 #[.int .i64 a0, .int .i64 1, .int .i64 13] ?_; (with_reducible refine (spec_l1In.calls a0 1 13 true _ A8.out).mono ?_); rintro e w' ⟨rfl, ⟨nd, rfl⟩⟩; refine ⟨_, rfl, ?_⟩; have hnb20 := NB310_311.out; have hnc20 := NB311_310.out; have hnb21 := NB310_312.out; have hnc21 := NB312_310.out; obtain ⟨hcz22_0, hcz22_1, hfz22_0, hfz22_1⟩ := sqc2 BK310) | (go_at_call 66; (with_reducible refine (spec_RestOk.calls a1_0 a1_1 false _ A10.out).mono ?_); rintro e w23 ⟨rfl, hb⟩; replace BK310 := sqb BK310 hb; replace BK311 := sqb BK311 hb; replace BK312 := sqb BK312 hb; replace HB := sqs HB hb; (try clear hb)))
        go_meet
        case rel => exact ⟨_, (true), (by first | rfl | (simp; done) | (simp [*]; done)), H', ⟨by first | omega | exact Nat.le_refl _⟩, sqk BK310, sqk BK311, sqk BK312, sqh HB⟩
    · replace c9 := Bool.eq_false_iff.mpr c9
      subst c9
      have H1 : (spec_RestDo.j0 k a0 true a1_0 a1_1 a2_0 a2_1) = some (r1, r2) := by rw [if_neg (show ¬ (false = true) by decide)] at H; exact H
      clear H
      have H := H1
      clear H1
      have H' := Aside0.mk H
      clear H
      go_wp2_with (first | ((with_reducible refine gate_callee (f := 105) rfl ?_); refine sqL (some 13) Try.func105 #[.int .i64 a0, .int .i64 1, .int .i64 13] ?_; (with_reducible refine (spec_l1In.calls a0 1 13 false _ A8.out).mono ?_); rintro e w' ⟨rfl, ⟨nd, rfl⟩⟩; refine ⟨_, rfl, ?_⟩))
      go_meet
      case rel => exact ⟨_, (true), (by first | rfl | (simp; done) | (simp [*]; done)), H', ⟨by first | omega | exact Nat.le_refl _⟩, sqk BK310, sqk BK311, sqk BK312, sqh HB⟩
  case rest =>
    clear HC4
    obtain ⟨kq, x24_3, rfl, HA, HJ3, BK310, BK311, BK312, HB⟩ := hcut
    cases kq with
    | zero => exact absurd HA.out (by simp [spec_RestDo.j0])
    | succ kj3 =>
      have H := HA.out
      clear HA
      simp only [spec_RestDo.j0] at H
      by_cases c24 : x24_3 = true
      · subst c24
        have H1 : ((spec_l9All.f).bind fun bt316 => (some (bt316.1, bt316.2))) = some (r1, r2) := by rw [if_pos rfl] at H; exact H
        clear H
        have H := H1
        clear H1
        replace H := Option.bind_eq_some_iff.mp H
        obtain ⟨⟨t316, t317⟩, A250, H⟩ := H
        replace H : (some (t316, t317)) = some (r1, r2) := H
        have A25 := Aside0.mk A250
        clear A250
        simp only [Option.some.injEq, Prod.mk.injEq] at H
        obtain ⟨rfl, rfl⟩ := H
        go_wp2_with (first | ((with_reducible refine gate_callee (f := 153) rfl ?_); refine sqL (some 25) Try.func153 #[] ?_; (with_reducible refine (spec_l9All.calls  t316 t317 _ A25.out).mono ?_); rintro e w26 ⟨rfl, hb⟩; refine ⟨_, rfl, ?_⟩; replace BK310 := sqb BK310 hb; replace BK311 := sqb BK311 hb; replace BK312 := sqb BK312 hb; replace HB := sqs HB hb; (try clear hb); have hnb27 := NB312_310.out; have hnc27 := NB310_312.out; have hnb28 := NB312_311.out; have hnc28 := NB311_312.out; obtain ⟨hcz29_0, hcz29_1, hfz29_0, hfz29_1⟩ := sqc2 BK312))
        refine bodyPost_ret (results_cell_row rfl _ _ gb312 26 #[.int .i64 t316, .int .i64 t317] (0, 0) _ rfl (by refine sqt ?_; refine blk_put (cs := #[.int .i64 t316, .int .i64 0]) ?_ 1 _ rfl; refine sqt ?_; refine blk_put (cs := #[.int .i64 0, .int .i64 0]) ?_ 0 _ rfl; refine sqt ?_; exact BK312.out) Try.underlying26 rfl (by kernel_rfl)) rfl ?_
        exact sqe HB
      · replace c24 := Bool.eq_false_iff.mpr c24
        subst c24
        have H1 : (if a1_0 = 0 then (spec_RestDo.j1 kj3 a0 (a2_0 == 0) a1_0 a1_1 a2_0 a2_1) else (spec_RestDo.j1 kj3 a0 false a1_0 a1_1 a2_0 a2_1)) = some (r1, r2) := by rw [if_neg (show ¬ (false = true) by decide)] at H; exact H
        clear H
        have H := H1
        clear H1
        have HC30 := Aside0.mk H
        clear H
        go_upto_region 3 with (fail)
        go_cut [33] (fun v33 wc => ∃ (kq : Nat) (x33_29 : Bool), v33 = .bool x33_29 ∧ Aside0 (spec_RestDo.j1 kq a0 x33_29 a1_0 a1_1 a2_0 a2_1 = some (r1, r2)) ∧ Aside0 (kq ≤ kj3) ∧ Aside0 (wc.heap[gb310]? = some (.cells #[.int .i64 a1_0, .int .i64 a1_1] 26 (0, 0))) ∧ Aside0 (wc.heap[gb311]? = some (.cells #[.int .i64 a2_0, .int .i64 a2_1] 26 (0, 0))) ∧ Aside0 (wc.heap[gb312]? = some (.cells #[.int .i64 0, .int .i64 0] 26 (0, 0))) ∧ Aside0 (Below w.heap.size w wc))
        case first =>
          have H := HC30.out
          clear HC30
          by_cases c31 : a1_0 = 0
          · rw [if_pos c31] at H
            have c31b0 : (a1_0 == 0) = true := beq_iff_eq.mpr c31
            have c31b1 : (a1_0 != 0) = false := bne_eq_false_iff_eq.mpr c31
            clear c31
            (first | rw [c31b0] | (simp only [i64_w, i32_w]; rw [c31b0]) | skip)
            have H' := Aside0.mk H
            clear H
            have hnb32 := NB310_311.out
            have hnc32 := NB311_310.out
            have hnb33 := NB310_312.out
            have hnc33 := NB312_310.out
            obtain ⟨hcz34_0, hcz34_1, hfz34_0, hfz34_1⟩ := sqc2 BK310
            have hnb35 := NB311_312.out
            have hnc35 := NB312_311.out
            obtain ⟨hcz36_0, hcz36_1, hfz36_0, hfz36_1⟩ := sqc2 BK311
            go_wp2
            go_meet
            case rel => exact ⟨_, ((a2_0 == 0)), (by first | rfl | (simp; done) | (simp [*]; done)), H', ⟨by have := HJ3.out; first | omega | exact Nat.le_refl _⟩, sqk BK310, sqk BK311, sqk BK312, sqh HB⟩
          · rw [if_neg c31] at H
            have c31b0 : (a1_0 == 0) = false := beq_eq_false_iff_ne.mpr c31
            have c31b1 : (a1_0 != 0) = true := bne_iff_ne.mpr c31
            (first | rw [c31b0] | (simp only [i64_w, i32_w]; rw [c31b0]) | skip)
            have H' := Aside0.mk H
            clear H
            have hnb37 := NB310_311.out
            have hnc37 := NB311_310.out
            have hnb38 := NB310_312.out
            have hnc38 := NB312_310.out
            obtain ⟨hcz39_0, hcz39_1, hfz39_0, hfz39_1⟩ := sqc2 BK310
            go_wp2
            go_meet
            case rel => exact ⟨_, (false), (by first | rfl | (simp; done) | (simp [*]; done)), H', ⟨by have := HJ3.out; first | omega | exact Nat.le_refl _⟩, sqk BK310, sqk BK311, sqk BK312, sqh HB⟩
        case rest =>
          clear HC30
          try clear c9
          try clear c11
          try clear c24
          try clear hcz15_0
          try clear hcz15_1
          try clear hcz18_0
          try clear hcz18_1
          try clear hcz22_0
          try clear hcz22_1
          try clear hcz29_0
          try clear hcz29_1
          try clear hfz15_0
          try clear hfz15_1
          try clear hfz18_0
          try clear hfz18_1
          try clear hfz22_0
          try clear hfz22_1
          try clear hfz29_0
          try clear hfz29_1
          obtain ⟨kq, x33_29, rfl, HA, HJ29, BK310, BK311, BK312, HB⟩ := hcut
          cases kq with
          | zero => exact absurd HA.out (by simp [spec_RestDo.j1])
          | succ kj29 =>
            have H := HA.out
            clear HA
            simp only [spec_RestDo.j1] at H
            by_cases c40 : x33_29 = true
            · subst c40
              have H1 : ((spec_NumDo.f kj29 a0 a1_1 a2_1).bind fun bt318 => (if bt318.2 = 0 then (some (0, bt318.1)) else ((spec_l9All.f).bind fun bt320 => (some (bt320.1, bt320.2))))) = some (r1, r2) := by rw [if_pos rfl] at H; exact H
              clear H
              have H := H1
              clear H1
              replace H := Option.bind_eq_some_iff.mp H
              obtain ⟨⟨t318, t319⟩, A410, H⟩ := H
              replace H : (if t319 = 0 then (some (0, t318)) else ((spec_l9All.f).bind fun bt320 => (some (bt320.1, bt320.2)))) = some (r1, r2) := H
              have A41 := Aside0.mk A410
              clear A410
              by_cases c42 : t319 = 0
              · rw [if_pos c42] at H
                have c42b0 : (t319 == 0) = true := beq_iff_eq.mpr c42
                have c42b1 : (t319 != 0) = false := bne_eq_false_iff_eq.mpr c42
                clear c42
                simp only [Option.some.injEq, Prod.mk.injEq] at H
                obtain ⟨rfl, rfl⟩ := H
                have hnb43 := NB310_311.out
                have hnc43 := NB311_310.out
                have hnb44 := NB310_312.out
                have hnc44 := NB312_310.out
                obtain ⟨hcz45_0, hcz45_1, hfz45_0, hfz45_1⟩ := sqc2 BK310
                have hnb46 := NB311_312.out
                have hnc46 := NB312_311.out
                obtain ⟨hcz47_0, hcz47_1, hfz47_0, hfz47_1⟩ := sqc2 BK311
                go_wp2_with (first | ((with_reducible refine gate_callee (f := 67) rfl ?_); refine sqL (some 40) Try.func67 #[.int .i64 a0, .int .i64 a1_1, .int .i64 a2_1] ?_; (with_reducible refine (spec_NumDo.calls kj29 a0 a1_1 a2_1 t318 t319 _ A41.out).mono ?_); rintro e w' ⟨rfl, ⟨nd, rfl⟩⟩; refine ⟨_, rfl, ?_⟩; (try (rw [drewN_self wc]; generalize hq_ : World.drewN wc _ = wc; replace BK310 := sqq BK310 hq_; replace BK311 := sqq BK311 hq_; replace BK312 := sqq BK312 hq_; replace HB := sqr HB hq_; clear hq_; obtain ⟨hqz1_0, hqz1_1, hqf1_0, hqf1_1⟩ := sqc2 BK310; obtain ⟨hqz2_0, hqz2_1, hqf2_0, hqf2_1⟩ := sqc2 BK311; obtain ⟨hqz3_0, hqz3_1, hqf3_0, hqf3_1⟩ := sqc2 BK312)); obtain ⟨hcz48_0, hcz48_1, hfz48_0, hfz48_1⟩ := sqc2 BK312))
                refine bodyPost_ret (results_cell_row rfl _ _ gb312 26 #[.int .i64 0, .int .i64 t318] (0, 0) _ rfl (by refine sqt ?_; refine blk_put (cs := #[.int .i64 0, .int .i64 0]) ?_ 1 _ rfl; refine sqt ?_; refine blk_put (cs := #[.int .i64 0, .int .i64 0]) ?_ 0 _ rfl; refine sqt ?_; exact BK312.out) Try.underlying26 rfl (by kernel_rfl)) rfl ?_
                exact sqe HB
              · rw [if_neg c42] at H
                have c42b0 : (t319 == 0) = false := beq_eq_false_iff_ne.mpr c42
                have c42b1 : (t319 != 0) = true := bne_iff_ne.mpr c42
                replace H := Option.bind_eq_some_iff.mp H
                obtain ⟨⟨t320, t321⟩, A490, H⟩ := H
                replace H : (some (t320, t321)) = some (r1, r2) := H
                have A49 := Aside0.mk A490
                clear A490
                simp only [Option.some.injEq, Prod.mk.injEq] at H
                obtain ⟨rfl, rfl⟩ := H
                have hnb50 := NB310_311.out
                have hnc50 := NB311_310.out
                have hnb51 := NB310_312.out
                have hnc51 := NB312_310.out
                obtain ⟨hcz52_0, hcz52_1, hfz52_0, hfz52_1⟩ := sqc2 BK310
                have hnb53 := NB311_312.out
                have hnc53 := NB312_311.out
                obtain ⟨hcz54_0, hcz54_1, hfz54_0, hfz54_1⟩ := sqc2 BK311
                go_wp2_with (first | ((with_reducible refine gate_callee (f := 67) rfl ?_); refine sqL (some 40) Try.func67 #[.int .i64 a0, .int .i64 a1_1, .int .i64 a2_1] ?_; (with_reducible refine (spec_NumDo.calls kj29 a0 a1_1 a2_1 t318 t319 _ A41.out).mono ?_); rintro e w' ⟨rfl, ⟨nd, rfl⟩⟩; refine ⟨_, rfl, ?_⟩; (try (rw [drewN_self wc]; generalize hq_ : World.drewN wc _ = wc; replace BK310 := sqq BK310 hq_; replace BK311 := sqq BK311 hq_; replace BK312 := sqq BK312 hq_; replace HB := sqr HB hq_; clear hq_; obtain ⟨hqz4_0, hqz4_1, hqf4_0, hqf4_1⟩ := sqc2 BK310; obtain ⟨hqz5_0, hqz5_1, hqf5_0, hqf5_1⟩ := sqc2 BK311; obtain ⟨hqz6_0, hqz6_1, hqf6_0, hqf6_1⟩ := sqc2 BK312))) | ((with_reducible refine gate_callee (f := 153) rfl ?_); refine sqL (some 45) Try.func153 #[] ?_; (with_reducible refine (spec_l9All.calls  t320 t321 _ A49.out).mono ?_); rintro e w55 ⟨rfl, hb⟩; refine ⟨_, rfl, ?_⟩; replace BK310 := sqb BK310 hb; replace BK311 := sqb BK311 hb; replace BK312 := sqb BK312 hb; replace HB := sqs HB hb; (try clear hb); obtain ⟨hcz56_0, hcz56_1, hfz56_0, hfz56_1⟩ := sqc2 BK312))
                refine bodyPost_ret (results_cell_row rfl _ _ gb312 26 #[.int .i64 t320, .int .i64 t321] (0, 0) _ rfl (by refine sqt ?_; refine blk_put (cs := #[.int .i64 t320, .int .i64 0]) ?_ 1 _ rfl; refine sqt ?_; refine blk_put (cs := #[.int .i64 0, .int .i64 0]) ?_ 0 _ rfl; refine sqt ?_; exact BK312.out) Try.underlying26 rfl (by kernel_rfl)) rfl ?_
                exact sqe HB
            · replace c40 := Bool.eq_false_iff.mpr c40
              subst c40
              have H1 : ((spec_l9Wraps.f a0).bind fun t322 => (if a0 = 1 then (spec_RestDo.j2 kj29 a0 t322 true a1_0 a1_1 a2_0 a2_1) else (spec_RestDo.j2 kj29 a0 t322 (a0 == 11) a1_0 a1_1 a2_0 a2_1))) = some (r1, r2) := by rw [if_neg (show ¬ (false = true) by decide)] at H; exact H
              clear H
              have H := H1
              clear H1
              replace H := Option.bind_eq_some_iff.mp H
              obtain ⟨t322, A570, H⟩ := H
              replace H : (if a0 = 1 then (spec_RestDo.j2 kj29 a0 t322 true a1_0 a1_1 a2_0 a2_1) else (spec_RestDo.j2 kj29 a0 t322 (a0 == 11) a1_0 a1_1 a2_0 a2_1)) = some (r1, r2) := H
              have A57 := Aside0.mk A570
              clear A570
              have HC58 := Aside0.mk H
              clear H
              go_upto_region 9 with (first | ((with_reducible refine gate_callee (f := 154) rfl ?_); refine sqL (some 49) Try.func154 #[.int .i64 a0] ?_; (with_reducible refine (spec_l9Wraps.calls a0 t322 _ A57.out).mono ?_); rintro e w' ⟨rfl, ⟨nd, rfl⟩⟩; refine ⟨_, rfl, ?_⟩))
              (try simp only [Act.put, List.setIfInBounds_toArray, List.set_cons_zero, List.set_cons_succ])
              go_cut [55] (fun v55 wc => ∃ (kq : Nat) (x55_57 : Bool), v55 = .bool x55_57 ∧ Aside0 (spec_RestDo.j2 kq a0 t322 x55_57 a1_0 a1_1 a2_0 a2_1 = some (r1, r2)) ∧ Aside0 (kq ≤ kj29) ∧ Aside0 (wc.heap[gb310]? = some (.cells #[.int .i64 a1_0, .int .i64 a1_1] 26 (0, 0))) ∧ Aside0 (wc.heap[gb311]? = some (.cells #[.int .i64 a2_0, .int .i64 a2_1] 26 (0, 0))) ∧ Aside0 (wc.heap[gb312]? = some (.cells #[.int .i64 0, .int .i64 0] 26 (0, 0))) ∧ Aside0 (Below w.heap.size w wc))
              case first =>
                have H := HC58.out
                clear HC58
                by_cases c59 : a0 = 1
                · rw [if_pos c59] at H
                  have c59b0 : (a0 == 1) = true := beq_iff_eq.mpr c59
                  have c59b1 : (a0 != 1) = false := bne_eq_false_iff_eq.mpr c59
                  clear c59
                  (first | rw [c59b0] | (simp only [i64_w, i32_w]; rw [c59b0]) | skip)
                  have H' := Aside0.mk H
                  clear H
                  go_wp2
                  go_meet
                  case rel => exact ⟨_, (true), (by first | rfl | (simp; done) | (simp [*]; done)), H', ⟨by have := HJ3.out; have := HJ29.out; first | omega | exact Nat.le_refl _⟩, sqk BK310, sqk BK311, sqk BK312, sqh HB⟩
                · rw [if_neg c59] at H
                  have c59b0 : (a0 == 1) = false := beq_eq_false_iff_ne.mpr c59
                  have c59b1 : (a0 != 1) = true := bne_iff_ne.mpr c59
                  (first | rw [c59b0] | (simp only [i64_w, i32_w]; rw [c59b0]) | skip)
                  have H' := Aside0.mk H
                  clear H
                  go_wp2
                  go_meet
                  case rel => exact ⟨_, ((a0 == 11)), (by first | rfl | (simp; done) | (simp [*]; done)), H', ⟨by have := HJ3.out; have := HJ29.out; first | omega | exact Nat.le_refl _⟩, sqk BK310, sqk BK311, sqk BK312, sqh HB⟩
              case rest =>
                clear HC58
                try clear c9
                try clear c11
                try clear c24
                try clear c31
                try clear c31b0
                try clear c31b1
                try clear c40
                try clear c42
                try clear c42b0
                try clear c42b1
                try clear hcz15_0
                try clear hcz15_1
                try clear hcz18_0
                try clear hcz18_1
                try clear hcz22_0
                try clear hcz22_1
                try clear hcz29_0
                try clear hcz29_1
                try clear hcz34_0
                try clear hcz34_1
                try clear hcz36_0
                try clear hcz36_1
                try clear hcz39_0
                try clear hcz39_1
                try clear hcz45_0
                try clear hcz45_1
                try clear hcz47_0
                try clear hcz47_1
                try clear hcz48_0
                try clear hcz48_1
                try clear hcz52_0
                try clear hcz52_1
                try clear hcz54_0
                try clear hcz54_1
                try clear hcz56_0
                try clear hcz56_1
                try clear hfz15_0
                try clear hfz15_1
                try clear hfz18_0
                try clear hfz18_1
                try clear hfz22_0
                try clear hfz22_1
                try clear hfz29_0
                try clear hfz29_1
                try clear hfz34_0
                try clear hfz34_1
                try clear hfz36_0
                try clear hfz36_1
                try clear hfz39_0
                try clear hfz39_1
                try clear hfz45_0
                try clear hfz45_1
                try clear hfz47_0
                try clear hfz47_1
                try clear hfz48_0
                try clear hfz48_1
                try clear hfz52_0
                try clear hfz52_1
                try clear hfz54_0
                try clear hfz54_1
                try clear hfz56_0
                try clear hfz56_1
                obtain ⟨kq, x55_57, rfl, HA, HJ57, BK310, BK311, BK312, HB⟩ := hcut
                cases kq with
                | zero => exact absurd HA.out (by simp [spec_RestDo.j2])
                | succ kj57 =>
                  have H := HA.out
                  clear HA
                  simp only [spec_RestDo.j2] at H
                  by_cases c60 : x55_57 = true
                  · subst c60
                    have H1 : ((spec_l9Gcd.f kj57 a1_0 a2_0).bind fun t323 => ((spec_l9Gcd.f kj57 t323 t322).bind fun t324 => ((spec_l9Make.f kj57 t324 (wrap64 (a1_1 + a2_1))).bind fun bt325 => (some (bt325.1, bt325.2))))) = some (r1, r2) := by rw [if_pos rfl] at H; exact H
                    clear H
                    have H := H1
                    clear H1
                    replace H := Option.bind_eq_some_iff.mp H
                    obtain ⟨t323, A610, H⟩ := H
                    replace H : ((spec_l9Gcd.f kj57 t323 t322).bind fun t324 => ((spec_l9Make.f kj57 t324 (wrap64 (a1_1 + a2_1))).bind fun bt325 => (some (bt325.1, bt325.2)))) = some (r1, r2) := H
                    have A61 := Aside0.mk A610
                    clear A610
                    replace H := Option.bind_eq_some_iff.mp H
                    obtain ⟨t324, A620, H⟩ := H
                    replace H : ((spec_l9Make.f kj57 t324 (wrap64 (a1_1 + a2_1))).bind fun bt325 => (some (bt325.1, bt325.2))) = some (r1, r2) := H
                    have A62 := Aside0.mk A620
                    clear A620
                    replace H := Option.bind_eq_some_iff.mp H
                    obtain ⟨⟨t325, t326⟩, A630, H⟩ := H
                    replace H : (some (t325, t326)) = some (r1, r2) := H
                    have A63 := Aside0.mk A630
                    clear A630
                    simp only [Option.some.injEq, Prod.mk.injEq] at H
                    obtain ⟨rfl, rfl⟩ := H
                    try go_wp2
                    replace BK310 := Aside0.mk (blk_drew BK310.out)
                    replace BK311 := Aside0.mk (blk_drew BK311.out)
                    replace BK312 := Aside0.mk (blk_drew BK312.out)
                    replace HB := Aside0.mk (below_drew1 HB.out)
                    refine start_ (n := 14) (S := fun w' => w'.cell? ⟨gb310, 0, none⟩ = some (.int .i64 a1_0) ∧ w'.cell? ⟨gb310, 1, none⟩ = some (.int .i64 a1_1) ∧ w'.cell? ⟨gb311, 0, none⟩ = some (.int .i64 a2_0) ∧ w'.cell? ⟨gb311, 1, none⟩ = some (.int .i64 a2_1)) (ds := []) #[false, false, false, false, false, false, false, false, false, false, false, false, false, false] (by kernel_rfl) rfl rfl ⟨(blk_cell BK310.out 0).trans rfl, (blk_cell BK310.out 1).trans rfl, (blk_cell BK311.out 0).trans rfl, (blk_cell BK311.out 1).trans rfl⟩ (fun hHeld => ?_); refine with_tabW spec_RestDo.tab10 spec_RestDo.bits10 (fun HT_ HW_ => ?_)
                    generalize wc.drew = w64 at BK310 BK311 BK312 HB hHeld ⊢
                    refine sqp HT_ 0 56 ?_
                    refine sqp HT_ 2 58 ?_
                    refine sqp HT_ 5 61 ?_
                    refine sqp HT_ 7 63 ?_
                    refine sqp HT_ 9 65 ?_
                    refine sqw HT_ HW_ 1 57 hHeld ?_
                    refine sqw HT_ HW_ 3 59 hHeld ?_
                    refine sqw HT_ HW_ 8 64 hHeld ?_
                    refine sqw HT_ HW_ 10 66 hHeld ?_
                    refine sqp HT_ 11 67 ?_
                    refine sqo HT_ 4 60 (fun K hK => ?_)
                    refine sqG Try.func156 #[.int .i64 a1_0, .int .i64 a2_0] ?_
                    with_reducible refine (spec_l9Gcd.calls kj57 a1_0 a2_0 t323 _ A61.out).mono ?_
                    rintro e w' ⟨rfl, ⟨nd, rfl⟩⟩
                    refine ⟨_, rfl, ?_⟩
                    refine hK.out _ _ sqz (fun hHeld => ?_)
                    clear hK K
                    refine sqnm ?_
                    refine sqo HT_ 6 62 (fun K hK => ?_)
                    refine sqG Try.func156 #[.int .i64 t323, .int .i64 t322] ?_
                    with_reducible refine (spec_l9Gcd.calls kj57 t323 t322 t324 _ A62.out).mono ?_
                    rintro e w' ⟨rfl, ⟨nd, rfl⟩⟩
                    refine ⟨_, rfl, ?_⟩
                    refine hK.out _ _ sqz (fun hHeld => ?_)
                    clear hK K
                    refine sqnm ?_
                    refine sqo HT_ 12 68 (fun K hK => ?_)
                    refine sqG Try.func155 #[.int .i64 t324, .int .i64 (wrap64 (a1_1 + a2_1))] ?_
                    with_reducible refine (spec_l9Make.calls kj57 t324 (wrap64 (a1_1 + a2_1)) t325 t326 _ A63.out).mono ?_
                    rintro e w65 ⟨rfl, hb⟩
                    refine ⟨_, rfl, ?_⟩
                    replace BK310 := sqb BK310 hb
                    replace BK311 := sqb BK311 hb
                    replace BK312 := sqb BK312 hb
                    replace HB := sqs HB hb
                    (try clear hb)
                    refine hK.out _ _ sqz (fun hHeld => ?_)
                    clear hK K
                    refine sqnm ?_
                    refine one_ (i := 13) (N := none) #[true, true, true, true, true, true, true, true, true, true, true, true, true, true] rfl rfl (one_of HT_.out (by kernel_rfl)) (by decide) (fun K hK => ?_)
                    have hs66 : w65.cell? ⟨gb312, 0, none⟩ = some (.int .i64 0) := (blk_cell BK312.out 0).trans rfl
                    have hfs66 := blk_frozen BK312.out 0
                    have hns66_0 := NB310_312.out
                    have hns66_1 := NB311_312.out
                    have hms66_0 := NB312_310.out
                    have hms66_1 := NB312_311.out
                    have hs67 : w65.cell? ⟨gb312, 1, none⟩ = some (.int .i64 0) := (blk_cell BK312.out 1).trans rfl
                    have hfs67 := blk_frozen BK312.out 1
                    have hns67_0 := NB310_312.out
                    have hns67_1 := NB311_312.out
                    have hms67_0 := NB312_310.out
                    have hms67_1 := NB312_311.out
                    refine skip_ (w1 := ?_) (by rfl) rfl ?_ ?_
                    rotate_left
                    · go_simp
                      rfl
                    refine hK.out _ _ ⟨((cell_far (p := ⟨gb312, _, none⟩) NB310_312.out _).trans (((cell_far (p := ⟨gb312, _, none⟩) NB310_312.out _).trans (hHeld.1)))), ((cell_far (p := ⟨gb312, _, none⟩) NB310_312.out _).trans (((cell_far (p := ⟨gb312, _, none⟩) NB310_312.out _).trans (hHeld.2.1)))), ((cell_far (p := ⟨gb312, _, none⟩) NB311_312.out _).trans (((cell_far (p := ⟨gb312, _, none⟩) NB311_312.out _).trans (hHeld.2.2.1)))), ((cell_far (p := ⟨gb312, _, none⟩) NB311_312.out _).trans (((cell_far (p := ⟨gb312, _, none⟩) NB311_312.out _).trans (hHeld.2.2.2))))⟩ (fun hHeld => ?_)
                    clear hK K
                    refine done_ (done_of HT_.out (by kernel_rfl)) ?_
                    try go_wp2
                    refine bodyPost_ret (results_cell_row rfl _ _ gb312 26 #[.int .i64 t325, .int .i64 t326] (0, 0) _ rfl (by refine sqt ?_; refine blk_put (cs := #[.int .i64 t325, .int .i64 0]) ?_ 1 _ rfl; refine sqt ?_; refine blk_put (cs := #[.int .i64 0, .int .i64 0]) ?_ 0 _ rfl; refine sqt ?_; exact BK312.out) Try.underlying26 rfl (by kernel_rfl)) rfl ?_
                    exact sqe HB
                  · replace c60 := Bool.eq_false_iff.mpr c60
                    subst c60
                    have H1 : (if a0 = 2 then (spec_RestDo.j3 kj57 a0 t322 true a1_0 a1_1 a2_0 a2_1) else (spec_RestDo.j3 kj57 a0 t322 (a0 == 12) a1_0 a1_1 a2_0 a2_1)) = some (r1, r2) := by rw [if_neg (show ¬ (false = true) by decide)] at H; exact H
                    clear H
                    have H := H1
                    clear H1
                    have HC68 := Aside0.mk H
                    clear H
                    go_upto_region 11 with (fail)
                    go_cut [74] (fun v74 wc => ∃ (kq : Nat) (x74_67 : Bool), v74 = .bool x74_67 ∧ Aside0 (spec_RestDo.j3 kq a0 t322 x74_67 a1_0 a1_1 a2_0 a2_1 = some (r1, r2)) ∧ Aside0 (kq ≤ kj57) ∧ Aside0 (wc.heap[gb310]? = some (.cells #[.int .i64 a1_0, .int .i64 a1_1] 26 (0, 0))) ∧ Aside0 (wc.heap[gb311]? = some (.cells #[.int .i64 a2_0, .int .i64 a2_1] 26 (0, 0))) ∧ Aside0 (wc.heap[gb312]? = some (.cells #[.int .i64 0, .int .i64 0] 26 (0, 0))) ∧ Aside0 (Below w.heap.size w wc))
                    case first =>
                      have H := HC68.out
                      clear HC68
                      by_cases c69 : a0 = 2
                      · rw [if_pos c69] at H
                        have c69b0 : (a0 == 2) = true := beq_iff_eq.mpr c69
                        have c69b1 : (a0 != 2) = false := bne_eq_false_iff_eq.mpr c69
                        clear c69
                        (first | rw [c69b0] | (simp only [i64_w, i32_w]; rw [c69b0]) | skip)
                        have H' := Aside0.mk H
                        clear H
                        go_wp2
                        go_meet
                        case rel => exact ⟨_, (true), (by first | rfl | (simp; done) | (simp [*]; done)), H', ⟨by have := HJ3.out; have := HJ29.out; have := HJ57.out; first | omega | exact Nat.le_refl _⟩, sqk BK310, sqk BK311, sqk BK312, sqh HB⟩
                      · rw [if_neg c69] at H
                        have c69b0 : (a0 == 2) = false := beq_eq_false_iff_ne.mpr c69
                        have c69b1 : (a0 != 2) = true := bne_iff_ne.mpr c69
                        (first | rw [c69b0] | (simp only [i64_w, i32_w]; rw [c69b0]) | skip)
                        have H' := Aside0.mk H
                        clear H
                        go_wp2
                        go_meet
                        case rel => exact ⟨_, ((a0 == 12)), (by first | rfl | (simp; done) | (simp [*]; done)), H', ⟨by have := HJ3.out; have := HJ29.out; have := HJ57.out; first | omega | exact Nat.le_refl _⟩, sqk BK310, sqk BK311, sqk BK312, sqh HB⟩
                    case rest =>
                      clear HC68
                      try clear c9
                      try clear c11
                      try clear c24
                      try clear c31
                      try clear c31b0
                      try clear c31b1
                      try clear c40
                      try clear c42
                      try clear c42b0
                      try clear c42b1
                      try clear c59
                      try clear c59b0
                      try clear c59b1
                      try clear c60
                      try clear hcz15_0
                      try clear hcz15_1
                      try clear hcz18_0
                      try clear hcz18_1
                      try clear hcz22_0
                      try clear hcz22_1
                      try clear hcz29_0
                      try clear hcz29_1
                      try clear hcz34_0
                      try clear hcz34_1
                      try clear hcz36_0
                      try clear hcz36_1
                      try clear hcz39_0
                      try clear hcz39_1
                      try clear hcz45_0
                      try clear hcz45_1
                      try clear hcz47_0
                      try clear hcz47_1
                      try clear hcz48_0
                      try clear hcz48_1
                      try clear hcz52_0
                      try clear hcz52_1
                      try clear hcz54_0
                      try clear hcz54_1
                      try clear hcz56_0
                      try clear hcz56_1
                      try clear hfz15_0
                      try clear hfz15_1
                      try clear hfz18_0
                      try clear hfz18_1
                      try clear hfz22_0
                      try clear hfz22_1
                      try clear hfz29_0
                      try clear hfz29_1
                      try clear hfz34_0
                      try clear hfz34_1
                      try clear hfz36_0
                      try clear hfz36_1
                      try clear hfz39_0
                      try clear hfz39_1
                      try clear hfz45_0
                      try clear hfz45_1
                      try clear hfz47_0
                      try clear hfz47_1
                      try clear hfz48_0
                      try clear hfz48_1
                      try clear hfz52_0
                      try clear hfz52_1
                      try clear hfz54_0
                      try clear hfz54_1
                      try clear hfz56_0
                      try clear hfz56_1
                      obtain ⟨kq, x74_67, rfl, HA, HJ67, BK310, BK311, BK312, HB⟩ := hcut
                      cases kq with
                      | zero => exact absurd HA.out (by simp [spec_RestDo.j3])
                      | succ kj67 =>
                        have H := HA.out
                        clear HA
                        simp only [spec_RestDo.j3] at H
                        by_cases c70 : x74_67 = true
                        · subst c70
                          have H1 : ((spec_l9Gcd.f kj67 a1_0 a2_0).bind fun t327 => ((spec_l9Gcd.f kj67 t327 t322).bind fun t328 => ((spec_l9Make.f kj67 t328 (wrap64 (a1_1 - a2_1))).bind fun bt329 => (some (bt329.1, bt329.2))))) = some (r1, r2) := by rw [if_pos rfl] at H; exact H
                          clear H
                          have H := H1
                          clear H1
                          replace H := Option.bind_eq_some_iff.mp H
                          obtain ⟨t327, A710, H⟩ := H
                          replace H : ((spec_l9Gcd.f kj67 t327 t322).bind fun t328 => ((spec_l9Make.f kj67 t328 (wrap64 (a1_1 - a2_1))).bind fun bt329 => (some (bt329.1, bt329.2)))) = some (r1, r2) := H
                          have A71 := Aside0.mk A710
                          clear A710
                          replace H := Option.bind_eq_some_iff.mp H
                          obtain ⟨t328, A720, H⟩ := H
                          replace H : ((spec_l9Make.f kj67 t328 (wrap64 (a1_1 - a2_1))).bind fun bt329 => (some (bt329.1, bt329.2))) = some (r1, r2) := H
                          have A72 := Aside0.mk A720
                          clear A720
                          replace H := Option.bind_eq_some_iff.mp H
                          obtain ⟨⟨t329, t330⟩, A730, H⟩ := H
                          replace H : (some (t329, t330)) = some (r1, r2) := H
                          have A73 := Aside0.mk A730
                          clear A730
                          simp only [Option.some.injEq, Prod.mk.injEq] at H
                          obtain ⟨rfl, rfl⟩ := H
                          try go_wp2
                          replace BK310 := Aside0.mk (blk_drew BK310.out)
                          replace BK311 := Aside0.mk (blk_drew BK311.out)
                          replace BK312 := Aside0.mk (blk_drew BK312.out)
                          replace HB := Aside0.mk (below_drew1 HB.out)
                          refine start_ (n := 14) (S := fun w' => w'.cell? ⟨gb310, 0, none⟩ = some (.int .i64 a1_0) ∧ w'.cell? ⟨gb310, 1, none⟩ = some (.int .i64 a1_1) ∧ w'.cell? ⟨gb311, 0, none⟩ = some (.int .i64 a2_0) ∧ w'.cell? ⟨gb311, 1, none⟩ = some (.int .i64 a2_1)) (ds := []) #[false, false, false, false, false, false, false, false, false, false, false, false, false, false] (by kernel_rfl) rfl rfl ⟨(blk_cell BK310.out 0).trans rfl, (blk_cell BK310.out 1).trans rfl, (blk_cell BK311.out 0).trans rfl, (blk_cell BK311.out 1).trans rfl⟩ (fun hHeld => ?_); refine with_tabW spec_RestDo.tab12 spec_RestDo.bits12 (fun HT_ HW_ => ?_)
                          generalize wc.drew = w74 at BK310 BK311 BK312 HB hHeld ⊢
                          refine sqp HT_ 0 75 ?_
                          refine sqp HT_ 2 77 ?_
                          refine sqp HT_ 5 80 ?_
                          refine sqp HT_ 7 82 ?_
                          refine sqp HT_ 9 84 ?_
                          refine sqw HT_ HW_ 1 76 hHeld ?_
                          refine sqw HT_ HW_ 3 78 hHeld ?_
                          refine sqw HT_ HW_ 8 83 hHeld ?_
                          refine sqw HT_ HW_ 10 85 hHeld ?_
                          refine sqp HT_ 11 86 ?_
                          refine sqo HT_ 4 79 (fun K hK => ?_)
                          refine sqG Try.func156 #[.int .i64 a1_0, .int .i64 a2_0] ?_
                          with_reducible refine (spec_l9Gcd.calls kj67 a1_0 a2_0 t327 _ A71.out).mono ?_
                          rintro e w' ⟨rfl, ⟨nd, rfl⟩⟩
                          refine ⟨_, rfl, ?_⟩
                          refine hK.out _ _ sqz (fun hHeld => ?_)
                          clear hK K
                          refine sqnm ?_
                          refine sqo HT_ 6 81 (fun K hK => ?_)
                          refine sqG Try.func156 #[.int .i64 t327, .int .i64 t322] ?_
                          with_reducible refine (spec_l9Gcd.calls kj67 t327 t322 t328 _ A72.out).mono ?_
                          rintro e w' ⟨rfl, ⟨nd, rfl⟩⟩
                          refine ⟨_, rfl, ?_⟩
                          refine hK.out _ _ sqz (fun hHeld => ?_)
                          clear hK K
                          refine sqnm ?_
                          refine sqo HT_ 12 87 (fun K hK => ?_)
                          refine sqG Try.func155 #[.int .i64 t328, .int .i64 (wrap64 (a1_1 - a2_1))] ?_
                          with_reducible refine (spec_l9Make.calls kj67 t328 (wrap64 (a1_1 - a2_1)) t329 t330 _ A73.out).mono ?_
                          rintro e w75 ⟨rfl, hb⟩
                          refine ⟨_, rfl, ?_⟩
                          replace BK310 := sqb BK310 hb
                          replace BK311 := sqb BK311 hb
                          replace BK312 := sqb BK312 hb
                          replace HB := sqs HB hb
                          (try clear hb)
                          refine hK.out _ _ sqz (fun hHeld => ?_)
                          clear hK K
                          refine sqnm ?_
                          refine one_ (i := 13) (N := none) #[true, true, true, true, true, true, true, true, true, true, true, true, true, true] rfl rfl (one_of HT_.out (by kernel_rfl)) (by decide) (fun K hK => ?_)
                          have hs76 : w75.cell? ⟨gb312, 0, none⟩ = some (.int .i64 0) := (blk_cell BK312.out 0).trans rfl
                          have hfs76 := blk_frozen BK312.out 0
                          have hns76_0 := NB310_312.out
                          have hns76_1 := NB311_312.out
                          have hms76_0 := NB312_310.out
                          have hms76_1 := NB312_311.out
                          have hs77 : w75.cell? ⟨gb312, 1, none⟩ = some (.int .i64 0) := (blk_cell BK312.out 1).trans rfl
                          have hfs77 := blk_frozen BK312.out 1
                          have hns77_0 := NB310_312.out
                          have hns77_1 := NB311_312.out
                          have hms77_0 := NB312_310.out
                          have hms77_1 := NB312_311.out
                          refine skip_ (w1 := ?_) (by rfl) rfl ?_ ?_
                          rotate_left
                          · go_simp
                            rfl
                          refine hK.out _ _ ⟨((cell_far (p := ⟨gb312, _, none⟩) NB310_312.out _).trans (((cell_far (p := ⟨gb312, _, none⟩) NB310_312.out _).trans (hHeld.1)))), ((cell_far (p := ⟨gb312, _, none⟩) NB310_312.out _).trans (((cell_far (p := ⟨gb312, _, none⟩) NB310_312.out _).trans (hHeld.2.1)))), ((cell_far (p := ⟨gb312, _, none⟩) NB311_312.out _).trans (((cell_far (p := ⟨gb312, _, none⟩) NB311_312.out _).trans (hHeld.2.2.1)))), ((cell_far (p := ⟨gb312, _, none⟩) NB311_312.out _).trans (((cell_far (p := ⟨gb312, _, none⟩) NB311_312.out _).trans (hHeld.2.2.2))))⟩ (fun hHeld => ?_)
                          clear hK K
                          refine done_ (done_of HT_.out (by kernel_rfl)) ?_
                          try go_wp2
                          refine bodyPost_ret (results_cell_row rfl _ _ gb312 26 #[.int .i64 t329, .int .i64 t330] (0, 0) _ rfl (by refine sqt ?_; refine blk_put (cs := #[.int .i64 t329, .int .i64 0]) ?_ 1 _ rfl; refine sqt ?_; refine blk_put (cs := #[.int .i64 0, .int .i64 0]) ?_ 0 _ rfl; refine sqt ?_; exact BK312.out) Try.underlying26 rfl (by kernel_rfl)) rfl ?_
                          exact sqe HB
                        · replace c70 := Bool.eq_false_iff.mpr c70
                          subst c70
                          have H1 : (if a0 = 9 then (if a2_0 = 0 then ((spec_l1In.f a2_1 0 31).bind fun t331 => (spec_RestDo.j4 kj67 a0 t322 t331 a1_0 a1_1 a2_0 a2_1)) else (spec_RestDo.j4 kj67 a0 t322 false a1_0 a1_1 a2_0 a2_1)) else (spec_RestDo.j4 kj67 a0 t322 false a1_0 a1_1 a2_0 a2_1)) = some (r1, r2) := by rw [if_neg (show ¬ (false = true) by decide)] at H; exact H
                          clear H
                          have H := H1
                          clear H1
                          have HC78 := Aside0.mk H
                          clear H
                          go_upto_region 13 with (fail)
                          go_cut [99] (fun v99 wc => ∃ (kq : Nat) (x99_77 : Bool), v99 = .bool x99_77 ∧ Aside0 (spec_RestDo.j4 kq a0 t322 x99_77 a1_0 a1_1 a2_0 a2_1 = some (r1, r2)) ∧ Aside0 (kq ≤ kj67) ∧ Aside0 (wc.heap[gb310]? = some (.cells #[.int .i64 a1_0, .int .i64 a1_1] 26 (0, 0))) ∧ Aside0 (wc.heap[gb311]? = some (.cells #[.int .i64 a2_0, .int .i64 a2_1] 26 (0, 0))) ∧ Aside0 (wc.heap[gb312]? = some (.cells #[.int .i64 0, .int .i64 0] 26 (0, 0))) ∧ Aside0 (Below w.heap.size w wc))
                          case first =>
                            have H := HC78.out
                            clear HC78
                            by_cases c79 : a0 = 9
                            · rw [if_pos c79] at H
                              have c79b0 : (a0 == 9) = true := beq_iff_eq.mpr c79
                              have c79b1 : (a0 != 9) = false := bne_eq_false_iff_eq.mpr c79
                              clear c79
                              (first | rw [c79b0] | (simp only [i64_w, i32_w]; rw [c79b0]) | skip)
                              by_cases c80 : a2_0 = 0
                              · rw [if_pos c80] at H
                                have c80b0 : (a2_0 == 0) = true := beq_iff_eq.mpr c80
                                have c80b1 : (a2_0 != 0) = false := bne_eq_false_iff_eq.mpr c80
                                clear c80
                                replace H := Option.bind_eq_some_iff.mp H
                                obtain ⟨t331, A810, H⟩ := H
                                replace H : (spec_RestDo.j4 kj67 a0 t322 t331 a1_0 a1_1 a2_0 a2_1) = some (r1, r2) := H
                                have A81 := Aside0.mk A810
                                clear A810
                                have H' := Aside0.mk H
                                clear H
                                have hnb82 := NB311_310.out
                                have hnc82 := NB310_311.out
                                have hnb83 := NB311_312.out
                                have hnc83 := NB312_311.out
                                obtain ⟨hcz84_0, hcz84_1, hfz84_0, hfz84_1⟩ := sqc2 BK311
                                go_wp2_with (first | (go_at_call 105; (with_reducible refine (spec_l1In.calls a2_1 0 31 t331 _ A81.out).mono ?_); rintro e w' ⟨rfl, ⟨nd, rfl⟩⟩))
                                go_meet
                                case rel => exact ⟨_, (t331), (by first | rfl | (simp; done) | (simp [*]; done)), H', ⟨by have := HJ3.out; have := HJ29.out; have := HJ57.out; have := HJ67.out; first | omega | exact Nat.le_refl _⟩, sqk BK310, sqk BK311, sqk BK312, sqh HB⟩
                              · rw [if_neg c80] at H
                                have c80b0 : (a2_0 == 0) = false := beq_eq_false_iff_ne.mpr c80
                                have c80b1 : (a2_0 != 0) = true := bne_iff_ne.mpr c80
                                have H' := Aside0.mk H
                                clear H
                                have hnb85 := NB311_310.out
                                have hnc85 := NB310_311.out
                                have hnb86 := NB311_312.out
                                have hnc86 := NB312_311.out
                                obtain ⟨hcz87_0, hcz87_1, hfz87_0, hfz87_1⟩ := sqc2 BK311
                                go_wp2
                                go_meet
                                case rel => exact ⟨_, (false), (by first | rfl | (simp; done) | (simp [*]; done)), H', ⟨by have := HJ3.out; have := HJ29.out; have := HJ57.out; have := HJ67.out; first | omega | exact Nat.le_refl _⟩, sqk BK310, sqk BK311, sqk BK312, sqh HB⟩
                            · rw [if_neg c79] at H
                              have c79b0 : (a0 == 9) = false := beq_eq_false_iff_ne.mpr c79
                              have c79b1 : (a0 != 9) = true := bne_iff_ne.mpr c79
                              (first | rw [c79b0] | (simp only [i64_w, i32_w]; rw [c79b0]) | skip)
                              have H' := Aside0.mk H
                              clear H
                              go_wp2
                              go_meet
                              case rel => exact ⟨_, (false), (by first | rfl | (simp; done) | (simp [*]; done)), H', ⟨by have := HJ3.out; have := HJ29.out; have := HJ57.out; have := HJ67.out; first | omega | exact Nat.le_refl _⟩, sqk BK310, sqk BK311, sqk BK312, sqh HB⟩
                          case rest =>
                            clear HC78
                            try clear c9
                            try clear c11
                            try clear c24
                            try clear c31
                            try clear c31b0
                            try clear c31b1
                            try clear c40
                            try clear c42
                            try clear c42b0
                            try clear c42b1
                            try clear c59
                            try clear c59b0
                            try clear c59b1
                            try clear c60
                            try clear c69
                            try clear c69b0
                            try clear c69b1
                            try clear c70
                            try clear hcz15_0
                            try clear hcz15_1
                            try clear hcz18_0
                            try clear hcz18_1
                            try clear hcz22_0
                            try clear hcz22_1
                            try clear hcz29_0
                            try clear hcz29_1
                            try clear hcz34_0
                            try clear hcz34_1
                            try clear hcz36_0
                            try clear hcz36_1
                            try clear hcz39_0
                            try clear hcz39_1
                            try clear hcz45_0
                            try clear hcz45_1
                            try clear hcz47_0
                            try clear hcz47_1
                            try clear hcz48_0
                            try clear hcz48_1
                            try clear hcz52_0
                            try clear hcz52_1
                            try clear hcz54_0
                            try clear hcz54_1
                            try clear hcz56_0
                            try clear hcz56_1
                            try clear hfz15_0
                            try clear hfz15_1
                            try clear hfz18_0
                            try clear hfz18_1
                            try clear hfz22_0
                            try clear hfz22_1
                            try clear hfz29_0
                            try clear hfz29_1
                            try clear hfz34_0
                            try clear hfz34_1
                            try clear hfz36_0
                            try clear hfz36_1
                            try clear hfz39_0
                            try clear hfz39_1
                            try clear hfz45_0
                            try clear hfz45_1
                            try clear hfz47_0
                            try clear hfz47_1
                            try clear hfz48_0
                            try clear hfz48_1
                            try clear hfz52_0
                            try clear hfz52_1
                            try clear hfz54_0
                            try clear hfz54_1
                            try clear hfz56_0
                            try clear hfz56_1
                            obtain ⟨kq, x99_77, rfl, HA, HJ77, BK310, BK311, BK312, HB⟩ := hcut
                            cases kq with
                            | zero => exact absurd HA.out (by simp [spec_RestDo.j4])
                            | succ kj77 =>
                              have H := HA.out
                              clear HA
                              simp only [spec_RestDo.j4] at H
                              by_cases c88 : x99_77 = true
                              · subst c88
                                have H1 : ((spec_l1Power.f kj77 a2_1).bind fun t332 => ((spec_l1Power.f kj77 a2_1).bind fun t333 => ((spec_l9Make.f kj77 (wrap64 (a1_0 * t332)) (wrap64 (a1_1 * t333))).bind fun bt334 => (some (bt334.1, bt334.2))))) = some (r1, r2) := by rw [if_pos rfl] at H; exact H
                                clear H
                                have H := H1
                                clear H1
                                replace H := Option.bind_eq_some_iff.mp H
                                obtain ⟨t332, A890, H⟩ := H
                                replace H : ((spec_l1Power.f kj77 a2_1).bind fun t333 => ((spec_l9Make.f kj77 (wrap64 (a1_0 * t332)) (wrap64 (a1_1 * t333))).bind fun bt334 => (some (bt334.1, bt334.2)))) = some (r1, r2) := H
                                have A89 := Aside0.mk A890
                                clear A890
                                replace H := Option.bind_eq_some_iff.mp H
                                obtain ⟨t333, A900, H⟩ := H
                                replace H : ((spec_l9Make.f kj77 (wrap64 (a1_0 * t332)) (wrap64 (a1_1 * t333))).bind fun bt334 => (some (bt334.1, bt334.2))) = some (r1, r2) := H
                                have A90 := Aside0.mk A900
                                clear A900
                                replace H := Option.bind_eq_some_iff.mp H
                                obtain ⟨⟨t334, t335⟩, A910, H⟩ := H
                                replace H : (some (t334, t335)) = some (r1, r2) := H
                                have A91 := Aside0.mk A910
                                clear A910
                                simp only [Option.some.injEq, Prod.mk.injEq] at H
                                obtain ⟨rfl, rfl⟩ := H
                                try go_wp2
                                replace BK310 := Aside0.mk (blk_drew BK310.out)
                                replace BK311 := Aside0.mk (blk_drew BK311.out)
                                replace BK312 := Aside0.mk (blk_drew BK312.out)
                                replace HB := Aside0.mk (below_drew1 HB.out)
                                refine start_ (n := 14) (S := fun w' => w'.cell? ⟨gb310, 0, none⟩ = some (.int .i64 a1_0) ∧ w'.cell? ⟨gb310, 1, none⟩ = some (.int .i64 a1_1) ∧ w'.cell? ⟨gb311, 0, none⟩ = some (.int .i64 a2_0) ∧ w'.cell? ⟨gb311, 1, none⟩ = some (.int .i64 a2_1)) (ds := []) #[false, false, false, false, false, false, false, false, false, false, false, false, false, false] (by kernel_rfl) rfl rfl ⟨(blk_cell BK310.out 0).trans rfl, (blk_cell BK310.out 1).trans rfl, (blk_cell BK311.out 0).trans rfl, (blk_cell BK311.out 1).trans rfl⟩ (fun hHeld => ?_); refine with_tabW spec_RestDo.tab14 spec_RestDo.bits14 (fun HT_ HW_ => ?_)
                                generalize wc.drew = w92 at BK310 BK311 BK312 HB hHeld ⊢
                                refine sqp HT_ 0 100 ?_
                                refine sqp HT_ 2 102 ?_
                                refine sqp HT_ 6 106 ?_
                                refine sqp HT_ 8 108 ?_
                                refine sqw HT_ HW_ 1 101 hHeld ?_
                                refine sqw HT_ HW_ 3 103 hHeld ?_
                                refine sqw HT_ HW_ 7 107 hHeld ?_
                                refine sqw HT_ HW_ 9 109 hHeld ?_
                                refine sqo HT_ 4 104 (fun K hK => ?_)
                                refine sqG Try.func157 #[.int .i64 a2_1] ?_
                                with_reducible refine (spec_l1Power.calls kj77 a2_1 t332 _ A89.out).mono ?_
                                rintro e w' ⟨rfl, ⟨nd, rfl⟩⟩
                                refine ⟨_, rfl, ?_⟩
                                refine hK.out _ _ sqz (fun hHeld => ?_)
                                clear hK K
                                refine sqnm ?_
                                refine sqp HT_ 5 105 ?_
                                refine sqo HT_ 10 110 (fun K hK => ?_)
                                refine sqG Try.func157 #[.int .i64 a2_1] ?_
                                with_reducible refine (spec_l1Power.calls kj77 a2_1 t333 _ A90.out).mono ?_
                                rintro e w' ⟨rfl, ⟨nd, rfl⟩⟩
                                refine ⟨_, rfl, ?_⟩
                                refine hK.out _ _ sqz (fun hHeld => ?_)
                                clear hK K
                                refine sqnm ?_
                                refine sqp HT_ 11 111 ?_
                                refine sqo HT_ 12 112 (fun K hK => ?_)
                                refine sqG Try.func155 #[.int .i64 (wrap64 (a1_0 * t332)), .int .i64 (wrap64 (a1_1 * t333))] ?_
                                with_reducible refine (spec_l9Make.calls kj77 (wrap64 (a1_0 * t332)) (wrap64 (a1_1 * t333)) t334 t335 _ A91.out).mono ?_
                                rintro e w93 ⟨rfl, hb⟩
                                refine ⟨_, rfl, ?_⟩
                                replace BK310 := sqb BK310 hb
                                replace BK311 := sqb BK311 hb
                                replace BK312 := sqb BK312 hb
                                replace HB := sqs HB hb
                                (try clear hb)
                                refine hK.out _ _ sqz (fun hHeld => ?_)
                                clear hK K
                                refine sqnm ?_
                                refine one_ (i := 13) (N := none) #[true, true, true, true, true, true, true, true, true, true, true, true, true, true] rfl rfl (one_of HT_.out (by kernel_rfl)) (by decide) (fun K hK => ?_)
                                have hs94 : w93.cell? ⟨gb312, 0, none⟩ = some (.int .i64 0) := (blk_cell BK312.out 0).trans rfl
                                have hfs94 := blk_frozen BK312.out 0
                                have hns94_0 := NB310_312.out
                                have hns94_1 := NB311_312.out
                                have hms94_0 := NB312_310.out
                                have hms94_1 := NB312_311.out
                                have hs95 : w93.cell? ⟨gb312, 1, none⟩ = some (.int .i64 0) := (blk_cell BK312.out 1).trans rfl
                                have hfs95 := blk_frozen BK312.out 1
                                have hns95_0 := NB310_312.out
                                have hns95_1 := NB311_312.out
                                have hms95_0 := NB312_310.out
                                have hms95_1 := NB312_311.out
                                refine skip_ (w1 := ?_) (by rfl) rfl ?_ ?_
                                rotate_left
                                · go_simp
                                  rfl
                                refine hK.out _ _ ⟨((cell_far (p := ⟨gb312, _, none⟩) NB310_312.out _).trans (((cell_far (p := ⟨gb312, _, none⟩) NB310_312.out _).trans (hHeld.1)))), ((cell_far (p := ⟨gb312, _, none⟩) NB310_312.out _).trans (((cell_far (p := ⟨gb312, _, none⟩) NB310_312.out _).trans (hHeld.2.1)))), ((cell_far (p := ⟨gb312, _, none⟩) NB311_312.out _).trans (((cell_far (p := ⟨gb312, _, none⟩) NB311_312.out _).trans (hHeld.2.2.1)))), ((cell_far (p := ⟨gb312, _, none⟩) NB311_312.out _).trans (((cell_far (p := ⟨gb312, _, none⟩) NB311_312.out _).trans (hHeld.2.2.2))))⟩ (fun hHeld => ?_)
                                clear hK K
                                refine done_ (done_of HT_.out (by kernel_rfl)) ?_
                                try go_wp2
                                refine bodyPost_ret (results_cell_row rfl _ _ gb312 26 #[.int .i64 t334, .int .i64 t335] (0, 0) _ rfl (by refine sqt ?_; refine blk_put (cs := #[.int .i64 t334, .int .i64 0]) ?_ 1 _ rfl; refine sqt ?_; refine blk_put (cs := #[.int .i64 0, .int .i64 0]) ?_ 0 _ rfl; refine sqt ?_; exact BK312.out) Try.underlying26 rfl (by kernel_rfl)) rfl ?_
                                exact sqe HB
                              · replace c88 := Bool.eq_false_iff.mpr c88
                                subst c88
                                have H1 : (if a0 = 3 then (spec_RestDo.j5 kj77 a0 t322 true a1_0 a1_1 a2_0 a2_1) else (spec_RestDo.j5 kj77 a0 t322 (a0 == 13) a1_0 a1_1 a2_0 a2_1)) = some (r1, r2) := by rw [if_neg (show ¬ (false = true) by decide)] at H; exact H
                                clear H
                                have H := H1
                                clear H1
                                have HC96 := Aside0.mk H
                                clear H
                                go_upto_region 15 with (fail)
                                go_cut [118] (fun v118 wc => ∃ (kq : Nat) (x118_95 : Bool), v118 = .bool x118_95 ∧ Aside0 (spec_RestDo.j5 kq a0 t322 x118_95 a1_0 a1_1 a2_0 a2_1 = some (r1, r2)) ∧ Aside0 (kq ≤ kj77) ∧ Aside0 (wc.heap[gb310]? = some (.cells #[.int .i64 a1_0, .int .i64 a1_1] 26 (0, 0))) ∧ Aside0 (wc.heap[gb311]? = some (.cells #[.int .i64 a2_0, .int .i64 a2_1] 26 (0, 0))) ∧ Aside0 (wc.heap[gb312]? = some (.cells #[.int .i64 0, .int .i64 0] 26 (0, 0))) ∧ Aside0 (Below w.heap.size w wc))
                                case first =>
                                  have H := HC96.out
                                  clear HC96
                                  by_cases c97 : a0 = 3
                                  · rw [if_pos c97] at H
                                    have c97b0 : (a0 == 3) = true := beq_iff_eq.mpr c97
                                    have c97b1 : (a0 != 3) = false := bne_eq_false_iff_eq.mpr c97
                                    clear c97
                                    (first | rw [c97b0] | (simp only [i64_w, i32_w]; rw [c97b0]) | skip)
                                    have H' := Aside0.mk H
                                    clear H
                                    go_wp2
                                    go_meet
                                    case rel => exact ⟨_, (true), (by first | rfl | (simp; done) | (simp [*]; done)), H', ⟨by have := HJ3.out; have := HJ29.out; have := HJ57.out; have := HJ67.out; have := HJ77.out; first | omega | exact Nat.le_refl _⟩, sqk BK310, sqk BK311, sqk BK312, sqh HB⟩
                                  · rw [if_neg c97] at H
                                    have c97b0 : (a0 == 3) = false := beq_eq_false_iff_ne.mpr c97
                                    have c97b1 : (a0 != 3) = true := bne_iff_ne.mpr c97
                                    (first | rw [c97b0] | (simp only [i64_w, i32_w]; rw [c97b0]) | skip)
                                    have H' := Aside0.mk H
                                    clear H
                                    go_wp2
                                    go_meet
                                    case rel => exact ⟨_, ((a0 == 13)), (by first | rfl | (simp; done) | (simp [*]; done)), H', ⟨by have := HJ3.out; have := HJ29.out; have := HJ57.out; have := HJ67.out; have := HJ77.out; first | omega | exact Nat.le_refl _⟩, sqk BK310, sqk BK311, sqk BK312, sqh HB⟩
                                case rest =>
                                  clear HC96
                                  try clear c9
                                  try clear c11
                                  try clear c24
                                  try clear c31
                                  try clear c31b0
                                  try clear c31b1
                                  try clear c40
                                  try clear c42
                                  try clear c42b0
                                  try clear c42b1
                                  try clear c59
                                  try clear c59b0
                                  try clear c59b1
                                  try clear c60
                                  try clear c69
                                  try clear c69b0
                                  try clear c69b1
                                  try clear c70
                                  try clear c79
                                  try clear c79b0
                                  try clear c79b1
                                  try clear c80
                                  try clear c80b0
                                  try clear c80b1
                                  try clear c88
                                  try clear hcz15_0
                                  try clear hcz15_1
                                  try clear hcz18_0
                                  try clear hcz18_1
                                  try clear hcz22_0
                                  try clear hcz22_1
                                  try clear hcz29_0
                                  try clear hcz29_1
                                  try clear hcz34_0
                                  try clear hcz34_1
                                  try clear hcz36_0
                                  try clear hcz36_1
                                  try clear hcz39_0
                                  try clear hcz39_1
                                  try clear hcz45_0
                                  try clear hcz45_1
                                  try clear hcz47_0
                                  try clear hcz47_1
                                  try clear hcz48_0
                                  try clear hcz48_1
                                  try clear hcz52_0
                                  try clear hcz52_1
                                  try clear hcz54_0
                                  try clear hcz54_1
                                  try clear hcz56_0
                                  try clear hcz56_1
                                  try clear hcz84_0
                                  try clear hcz84_1
                                  try clear hcz87_0
                                  try clear hcz87_1
                                  try clear hfz15_0
                                  try clear hfz15_1
                                  try clear hfz18_0
                                  try clear hfz18_1
                                  try clear hfz22_0
                                  try clear hfz22_1
                                  try clear hfz29_0
                                  try clear hfz29_1
                                  try clear hfz34_0
                                  try clear hfz34_1
                                  try clear hfz36_0
                                  try clear hfz36_1
                                  try clear hfz39_0
                                  try clear hfz39_1
                                  try clear hfz45_0
                                  try clear hfz45_1
                                  try clear hfz47_0
                                  try clear hfz47_1
                                  try clear hfz48_0
                                  try clear hfz48_1
                                  try clear hfz52_0
                                  try clear hfz52_1
                                  try clear hfz54_0
                                  try clear hfz54_1
                                  try clear hfz56_0
                                  try clear hfz56_1
                                  try clear hfz84_0
                                  try clear hfz84_1
                                  try clear hfz87_0
                                  try clear hfz87_1
                                  obtain ⟨kq, x118_95, rfl, HA, HJ95, BK310, BK311, BK312, HB⟩ := hcut
                                  cases kq with
                                  | zero => exact absurd HA.out (by simp [spec_RestDo.j5])
                                  | succ kj95 =>
                                    have H := HA.out
                                    clear HA
                                    simp only [spec_RestDo.j5] at H
                                    by_cases c98 : x118_95 = true
                                    · subst c98
                                      have H1 : ((spec_l9Gcd.f kj95 (wrap64 (a1_0 * a2_0)) (wrap64 (a1_0 * a2_1))).bind fun t336 => ((spec_l9Gcd.f kj95 t336 (wrap64 (a2_0 * a1_1))).bind fun t337 => (if t337 = 0 then (some (0, 0)) else ((spec_l9Gcd.f kj95 t337 t322).bind fun t338 => ((spec_l9Make.f kj95 t338 (wrap64 (a1_1 * a2_1))).bind fun bt339 => (some (bt339.1, bt339.2))))))) = some (r1, r2) := by rw [if_pos rfl] at H; exact H
                                      clear H
                                      have H := H1
                                      clear H1
                                      replace H := Option.bind_eq_some_iff.mp H
                                      obtain ⟨t336, A990, H⟩ := H
                                      replace H : ((spec_l9Gcd.f kj95 t336 (wrap64 (a2_0 * a1_1))).bind fun t337 => (if t337 = 0 then (some (0, 0)) else ((spec_l9Gcd.f kj95 t337 t322).bind fun t338 => ((spec_l9Make.f kj95 t338 (wrap64 (a1_1 * a2_1))).bind fun bt339 => (some (bt339.1, bt339.2)))))) = some (r1, r2) := H
                                      have A99 := Aside0.mk A990
                                      clear A990
                                      replace H := Option.bind_eq_some_iff.mp H
                                      obtain ⟨t337, A1000, H⟩ := H
                                      replace H : (if t337 = 0 then (some (0, 0)) else ((spec_l9Gcd.f kj95 t337 t322).bind fun t338 => ((spec_l9Make.f kj95 t338 (wrap64 (a1_1 * a2_1))).bind fun bt339 => (some (bt339.1, bt339.2))))) = some (r1, r2) := H
                                      have A100 := Aside0.mk A1000
                                      clear A1000
                                      by_cases c101 : t337 = 0
                                      · rw [if_pos c101] at H
                                        have c101b0 : (t337 == 0) = true := beq_iff_eq.mpr c101
                                        have c101b1 : (t337 != 0) = false := bne_eq_false_iff_eq.mpr c101
                                        clear c101
                                        simp only [Option.some.injEq, Prod.mk.injEq] at H
                                        obtain ⟨rfl, rfl⟩ := H
                                        try go_wp2
                                        replace BK310 := Aside0.mk (blk_drew BK310.out)
                                        replace BK311 := Aside0.mk (blk_drew BK311.out)
                                        replace BK312 := Aside0.mk (blk_drew BK312.out)
                                        replace HB := Aside0.mk (below_drew1 HB.out)
                                        refine start_ (n := 18) (S := fun w' => w'.cell? ⟨gb310, 0, none⟩ = some (.int .i64 a1_0) ∧ w'.cell? ⟨gb310, 1, none⟩ = some (.int .i64 a1_1) ∧ w'.cell? ⟨gb311, 0, none⟩ = some (.int .i64 a2_0) ∧ w'.cell? ⟨gb311, 1, none⟩ = some (.int .i64 a2_1)) (ds := []) #[false, false, false, false, false, false, false, false, false, false, false, false, false, false, false, false, false, false] (by kernel_rfl) rfl rfl ⟨(blk_cell BK310.out 0).trans rfl, (blk_cell BK310.out 1).trans rfl, (blk_cell BK311.out 0).trans rfl, (blk_cell BK311.out 1).trans rfl⟩ (fun hHeld => ?_); refine with_tabW spec_RestDo.tab16 spec_RestDo.bits16 (fun HT_ HW_ => ?_)
                                        generalize wc.drew = w102 at BK310 BK311 BK312 HB hHeld ⊢
                                        refine sqp HT_ 0 119 ?_
                                        refine sqp HT_ 2 121 ?_
                                        refine sqp HT_ 5 124 ?_
                                        refine sqp HT_ 7 126 ?_
                                        refine sqp HT_ 11 130 ?_
                                        refine sqp HT_ 13 132 ?_
                                        refine sqw HT_ HW_ 1 120 hHeld ?_
                                        refine sqw HT_ HW_ 3 122 hHeld ?_
                                        refine sqp HT_ 4 123 ?_
                                        refine sqw HT_ HW_ 6 125 hHeld ?_
                                        refine sqw HT_ HW_ 8 127 hHeld ?_
                                        refine sqp HT_ 9 128 ?_
                                        refine sqw HT_ HW_ 12 131 hHeld ?_
                                        refine sqw HT_ HW_ 14 133 hHeld ?_
                                        refine sqp HT_ 15 134 ?_
                                        refine sqo HT_ 10 129 (fun K hK => ?_)
                                        refine sqG Try.func156 #[.int .i64 (wrap64 (a1_0 * a2_0)), .int .i64 (wrap64 (a1_0 * a2_1))] ?_
                                        with_reducible refine (spec_l9Gcd.calls kj95 (wrap64 (a1_0 * a2_0)) (wrap64 (a1_0 * a2_1)) t336 _ A99.out).mono ?_
                                        rintro e w' ⟨rfl, ⟨nd, rfl⟩⟩
                                        refine ⟨_, rfl, ?_⟩
                                        refine hK.out _ _ sqz (fun hHeld => ?_)
                                        clear hK K
                                        refine sqnm ?_
                                        refine sqo HT_ 16 135 (fun K hK => ?_)
                                        refine sqG Try.func156 #[.int .i64 t336, .int .i64 (wrap64 (a2_0 * a1_1))] ?_
                                        with_reducible refine (spec_l9Gcd.calls kj95 t336 (wrap64 (a2_0 * a1_1)) t337 _ A100.out).mono ?_
                                        rintro e w' ⟨rfl, ⟨nd, rfl⟩⟩
                                        refine ⟨_, rfl, ?_⟩
                                        refine hK.out _ _ sqz (fun hHeld => ?_)
                                        clear hK K
                                        refine sqnm ?_
                                        refine sqp HT_ 17 10 ?_
                                        refine done_ (done_of HT_.out (by kernel_rfl)) ?_
                                        have hnb103 := NB312_310.out
                                        have hnc103 := NB310_312.out
                                        have hnb104 := NB312_311.out
                                        have hnc104 := NB311_312.out
                                        obtain ⟨hcz105_0, hcz105_1, hfz105_0, hfz105_1⟩ := sqc2 BK312
                                        try go_wp2
                                        refine bodyPost_ret (results_cell_row rfl _ _ gb312 26 #[.int .i64 0, .int .i64 0] (0, 0) _ rfl (by refine sqt ?_; refine blk_put (cs := #[.int .i64 0, .int .i64 0]) ?_ 1 _ rfl; refine sqt ?_; refine blk_put (cs := #[.int .i64 0, .int .i64 0]) ?_ 0 _ rfl; refine sqt ?_; exact BK312.out) Try.underlying26 rfl (by kernel_rfl)) rfl ?_
                                        exact sqe HB
                                      · rw [if_neg c101] at H
                                        have c101b0 : (t337 == 0) = false := beq_eq_false_iff_ne.mpr c101
                                        have c101b1 : (t337 != 0) = true := bne_iff_ne.mpr c101
                                        replace H := Option.bind_eq_some_iff.mp H
                                        obtain ⟨t338, A1060, H⟩ := H
                                        replace H : ((spec_l9Make.f kj95 t338 (wrap64 (a1_1 * a2_1))).bind fun bt339 => (some (bt339.1, bt339.2))) = some (r1, r2) := H
                                        have A106 := Aside0.mk A1060
                                        clear A1060
                                        replace H := Option.bind_eq_some_iff.mp H
                                        obtain ⟨⟨t339, t340⟩, A1070, H⟩ := H
                                        replace H : (some (t339, t340)) = some (r1, r2) := H
                                        have A107 := Aside0.mk A1070
                                        clear A1070
                                        simp only [Option.some.injEq, Prod.mk.injEq] at H
                                        obtain ⟨rfl, rfl⟩ := H
                                        try go_wp2
                                        replace BK310 := Aside0.mk (blk_drew BK310.out)
                                        replace BK311 := Aside0.mk (blk_drew BK311.out)
                                        replace BK312 := Aside0.mk (blk_drew BK312.out)
                                        replace HB := Aside0.mk (below_drew1 HB.out)
                                        refine start_ (n := 18) (S := fun w' => w'.cell? ⟨gb310, 0, none⟩ = some (.int .i64 a1_0) ∧ w'.cell? ⟨gb310, 1, none⟩ = some (.int .i64 a1_1) ∧ w'.cell? ⟨gb311, 0, none⟩ = some (.int .i64 a2_0) ∧ w'.cell? ⟨gb311, 1, none⟩ = some (.int .i64 a2_1)) (ds := []) #[false, false, false, false, false, false, false, false, false, false, false, false, false, false, false, false, false, false] (by kernel_rfl) rfl rfl ⟨(blk_cell BK310.out 0).trans rfl, (blk_cell BK310.out 1).trans rfl, (blk_cell BK311.out 0).trans rfl, (blk_cell BK311.out 1).trans rfl⟩ (fun hHeld => ?_); refine with_tabW spec_RestDo.tab16 spec_RestDo.bits16 (fun HT_ HW_ => ?_)
                                        generalize wc.drew = w108 at BK310 BK311 BK312 HB hHeld ⊢
                                        refine sqp HT_ 0 119 ?_
                                        refine sqp HT_ 2 121 ?_
                                        refine sqp HT_ 5 124 ?_
                                        refine sqp HT_ 7 126 ?_
                                        refine sqp HT_ 11 130 ?_
                                        refine sqp HT_ 13 132 ?_
                                        refine sqw HT_ HW_ 1 120 hHeld ?_
                                        refine sqw HT_ HW_ 3 122 hHeld ?_
                                        refine sqp HT_ 4 123 ?_
                                        refine sqw HT_ HW_ 6 125 hHeld ?_
                                        refine sqw HT_ HW_ 8 127 hHeld ?_
                                        refine sqp HT_ 9 128 ?_
                                        refine sqw HT_ HW_ 12 131 hHeld ?_
                                        refine sqw HT_ HW_ 14 133 hHeld ?_
                                        refine sqp HT_ 15 134 ?_
                                        refine sqo HT_ 10 129 (fun K hK => ?_)
                                        refine sqG Try.func156 #[.int .i64 (wrap64 (a1_0 * a2_0)), .int .i64 (wrap64 (a1_0 * a2_1))] ?_
                                        with_reducible refine (spec_l9Gcd.calls kj95 (wrap64 (a1_0 * a2_0)) (wrap64 (a1_0 * a2_1)) t336 _ A99.out).mono ?_
                                        rintro e w' ⟨rfl, ⟨nd, rfl⟩⟩
                                        refine ⟨_, rfl, ?_⟩
                                        refine hK.out _ _ sqz (fun hHeld => ?_)
                                        clear hK K
                                        refine sqnm ?_
                                        refine sqo HT_ 16 135 (fun K hK => ?_)
                                        refine sqG Try.func156 #[.int .i64 t336, .int .i64 (wrap64 (a2_0 * a1_1))] ?_
                                        with_reducible refine (spec_l9Gcd.calls kj95 t336 (wrap64 (a2_0 * a1_1)) t337 _ A100.out).mono ?_
                                        rintro e w' ⟨rfl, ⟨nd, rfl⟩⟩
                                        refine ⟨_, rfl, ?_⟩
                                        refine hK.out _ _ sqz (fun hHeld => ?_)
                                        clear hK K
                                        refine sqnm ?_
                                        refine sqp HT_ 17 10 ?_
                                        refine done_ (done_of HT_.out (by kernel_rfl)) ?_
                                        try go_wp2
                                        (try (rw [drewN_self w108]; generalize hq_ : World.drewN w108 _ = w108; replace BK310 := sqq BK310 hq_; replace BK311 := sqq BK311 hq_; replace BK312 := sqq BK312 hq_; replace HB := sqr HB hq_; clear hq_; obtain ⟨hqz7_0, hqz7_1, hqf7_0, hqf7_1⟩ := sqc2 BK310; obtain ⟨hqz8_0, hqz8_1, hqf8_0, hqf8_1⟩ := sqc2 BK311; obtain ⟨hqz9_0, hqz9_1, hqf9_0, hqf9_1⟩ := sqc2 BK312))
                                        replace BK310 := Aside0.mk (blk_drew BK310.out)
                                        replace BK311 := Aside0.mk (blk_drew BK311.out)
                                        replace BK312 := Aside0.mk (blk_drew BK312.out)
                                        replace HB := Aside0.mk (below_drew1 HB.out)
                                        refine start_ (n := 10) (S := fun w' => w'.cell? ⟨gb310, 0, none⟩ = some (.int .i64 a1_0) ∧ w'.cell? ⟨gb310, 1, none⟩ = some (.int .i64 a1_1) ∧ w'.cell? ⟨gb311, 0, none⟩ = some (.int .i64 a2_0) ∧ w'.cell? ⟨gb311, 1, none⟩ = some (.int .i64 a2_1)) (ds := []) #[false, false, false, false, false, false, false, false, false, false] (by kernel_rfl) rfl rfl ⟨(blk_cell BK310.out 0).trans rfl, (blk_cell BK310.out 1).trans rfl, (blk_cell BK311.out 0).trans rfl, (blk_cell BK311.out 1).trans rfl⟩ (fun hHeld => ?_); refine with_tabW spec_RestDo.tab19 spec_RestDo.bits19 (fun HT_ HW_ => ?_)
                                        generalize w108.drew = w109 at BK310 BK311 BK312 HB hHeld ⊢
                                        refine sqp HT_ 0 139 ?_
                                        refine sqp HT_ 1 140 ?_
                                        refine sqp HT_ 3 142 ?_
                                        refine sqp HT_ 5 144 ?_
                                        refine sqw HT_ HW_ 4 143 hHeld ?_
                                        refine sqw HT_ HW_ 6 145 hHeld ?_
                                        refine sqp HT_ 7 146 ?_
                                        refine sqo HT_ 2 141 (fun K hK => ?_)
                                        refine sqG Try.func156 #[.int .i64 t337, .int .i64 t322] ?_
                                        with_reducible refine (spec_l9Gcd.calls kj95 t337 t322 t338 _ A106.out).mono ?_
                                        rintro e w' ⟨rfl, ⟨nd, rfl⟩⟩
                                        refine ⟨_, rfl, ?_⟩
                                        refine hK.out _ _ sqz (fun hHeld => ?_)
                                        clear hK K
                                        refine sqnm ?_
                                        refine sqo HT_ 8 147 (fun K hK => ?_)
                                        refine sqG Try.func155 #[.int .i64 t338, .int .i64 (wrap64 (a1_1 * a2_1))] ?_
                                        with_reducible refine (spec_l9Make.calls kj95 t338 (wrap64 (a1_1 * a2_1)) t339 t340 _ A107.out).mono ?_
                                        rintro e w110 ⟨rfl, hb⟩
                                        refine ⟨_, rfl, ?_⟩
                                        replace BK310 := sqb BK310 hb
                                        replace BK311 := sqb BK311 hb
                                        replace BK312 := sqb BK312 hb
                                        replace HB := sqs HB hb
                                        (try clear hb)
                                        refine hK.out _ _ sqz (fun hHeld => ?_)
                                        clear hK K
                                        refine sqnm ?_
                                        refine one_ (i := 9) (N := none) #[true, true, true, true, true, true, true, true, true, true] rfl rfl (one_of HT_.out (by kernel_rfl)) (by decide) (fun K hK => ?_)
                                        have hs111 : w110.cell? ⟨gb312, 0, none⟩ = some (.int .i64 0) := (blk_cell BK312.out 0).trans rfl
                                        have hfs111 := blk_frozen BK312.out 0
                                        have hns111_0 := NB310_312.out
                                        have hns111_1 := NB311_312.out
                                        have hms111_0 := NB312_310.out
                                        have hms111_1 := NB312_311.out
                                        have hs112 : w110.cell? ⟨gb312, 1, none⟩ = some (.int .i64 0) := (blk_cell BK312.out 1).trans rfl
                                        have hfs112 := blk_frozen BK312.out 1
                                        have hns112_0 := NB310_312.out
                                        have hns112_1 := NB311_312.out
                                        have hms112_0 := NB312_310.out
                                        have hms112_1 := NB312_311.out
                                        refine skip_ (w1 := ?_) (by rfl) rfl ?_ ?_
                                        rotate_left
                                        · go_simp
                                          rfl
                                        refine hK.out _ _ ⟨((cell_far (p := ⟨gb312, _, none⟩) NB310_312.out _).trans (((cell_far (p := ⟨gb312, _, none⟩) NB310_312.out _).trans (hHeld.1)))), ((cell_far (p := ⟨gb312, _, none⟩) NB310_312.out _).trans (((cell_far (p := ⟨gb312, _, none⟩) NB310_312.out _).trans (hHeld.2.1)))), ((cell_far (p := ⟨gb312, _, none⟩) NB311_312.out _).trans (((cell_far (p := ⟨gb312, _, none⟩) NB311_312.out _).trans (hHeld.2.2.1)))), ((cell_far (p := ⟨gb312, _, none⟩) NB311_312.out _).trans (((cell_far (p := ⟨gb312, _, none⟩) NB311_312.out _).trans (hHeld.2.2.2))))⟩ (fun hHeld => ?_)
                                        clear hK K
                                        refine done_ (done_of HT_.out (by kernel_rfl)) ?_
                                        try go_wp2
                                        refine bodyPost_ret (results_cell_row rfl _ _ gb312 26 #[.int .i64 t339, .int .i64 t340] (0, 0) _ rfl (by refine sqt ?_; refine blk_put (cs := #[.int .i64 t339, .int .i64 0]) ?_ 1 _ rfl; refine sqt ?_; refine blk_put (cs := #[.int .i64 0, .int .i64 0]) ?_ 0 _ rfl; refine sqt ?_; exact BK312.out) Try.underlying26 rfl (by kernel_rfl)) rfl ?_
                                        exact sqe HB
                                    · replace c98 := Bool.eq_false_iff.mpr c98
                                      subst c98
                                      have H1 : (if a0 = 5 then ((spec_l9Gcd.f kj95 a2_0 a2_1).bind fun t341 => ((spec_l9Gcd.f kj95 a1_0 t341).bind fun t342 => (if t342 = 0 then ((spec_l9All.f).bind fun bt343 => (some (bt343.1, bt343.2))) else ((spec_l9Make.f kj95 t342 a1_1).bind fun bt345 => (some (bt345.1, bt345.2)))))) else ((spec_l9All.f).bind fun bt347 => (some (bt347.1, bt347.2)))) = some (r1, r2) := by rw [if_neg (show ¬ (false = true) by decide)] at H; exact H
                                      clear H
                                      have H := H1
                                      clear H1
                                      by_cases c113 : a0 = 5
                                      · rw [if_pos c113] at H
                                        have c113b0 : (a0 == 5) = true := beq_iff_eq.mpr c113
                                        have c113b1 : (a0 != 5) = false := bne_eq_false_iff_eq.mpr c113
                                        clear c113
                                        replace H := Option.bind_eq_some_iff.mp H
                                        obtain ⟨t341, A1140, H⟩ := H
                                        replace H : ((spec_l9Gcd.f kj95 a1_0 t341).bind fun t342 => (if t342 = 0 then ((spec_l9All.f).bind fun bt343 => (some (bt343.1, bt343.2))) else ((spec_l9Make.f kj95 t342 a1_1).bind fun bt345 => (some (bt345.1, bt345.2))))) = some (r1, r2) := H
                                        have A114 := Aside0.mk A1140
                                        clear A1140
                                        replace H := Option.bind_eq_some_iff.mp H
                                        obtain ⟨t342, A1150, H⟩ := H
                                        replace H : (if t342 = 0 then ((spec_l9All.f).bind fun bt343 => (some (bt343.1, bt343.2))) else ((spec_l9Make.f kj95 t342 a1_1).bind fun bt345 => (some (bt345.1, bt345.2)))) = some (r1, r2) := H
                                        have A115 := Aside0.mk A1150
                                        clear A1150
                                        by_cases c116 : t342 = 0
                                        · rw [if_pos c116] at H
                                          have c116b0 : (t342 == 0) = true := beq_iff_eq.mpr c116
                                          have c116b1 : (t342 != 0) = false := bne_eq_false_iff_eq.mpr c116
                                          clear c116
                                          replace H := Option.bind_eq_some_iff.mp H
                                          obtain ⟨⟨t343, t344⟩, A1170, H⟩ := H
                                          replace H : (some (t343, t344)) = some (r1, r2) := H
                                          have A117 := Aside0.mk A1170
                                          clear A1170
                                          simp only [Option.some.injEq, Prod.mk.injEq] at H
                                          obtain ⟨rfl, rfl⟩ := H
                                          try go_wp2
                                          replace BK310 := Aside0.mk (blk_drew BK310.out)
                                          replace BK311 := Aside0.mk (blk_drew BK311.out)
                                          replace BK312 := Aside0.mk (blk_drew BK312.out)
                                          replace HB := Aside0.mk (below_drew1 HB.out)
                                          refine start_ (n := 9) (S := fun w' => w'.cell? ⟨gb310, 0, none⟩ = some (.int .i64 a1_0) ∧ w'.cell? ⟨gb310, 1, none⟩ = some (.int .i64 a1_1) ∧ w'.cell? ⟨gb311, 0, none⟩ = some (.int .i64 a2_0) ∧ w'.cell? ⟨gb311, 1, none⟩ = some (.int .i64 a2_1)) (ds := []) #[false, false, false, false, false, false, false, false, false] (by kernel_rfl) rfl rfl ⟨(blk_cell BK310.out 0).trans rfl, (blk_cell BK310.out 1).trans rfl, (blk_cell BK311.out 0).trans rfl, (blk_cell BK311.out 1).trans rfl⟩ (fun hHeld => ?_); refine with_tabW spec_RestDo.tab21 spec_RestDo.bits21 (fun HT_ HW_ => ?_)
                                          generalize wc.drew = w118 at BK310 BK311 BK312 HB hHeld ⊢
                                          refine sqp HT_ 0 150 ?_
                                          refine sqp HT_ 2 152 ?_
                                          refine sqp HT_ 4 154 ?_
                                          refine sqw HT_ HW_ 1 151 hHeld ?_
                                          refine sqw HT_ HW_ 3 153 hHeld ?_
                                          refine sqw HT_ HW_ 5 155 hHeld ?_
                                          refine sqo HT_ 6 156 (fun K hK => ?_)
                                          refine sqG Try.func156 #[.int .i64 a2_0, .int .i64 a2_1] ?_
                                          with_reducible refine (spec_l9Gcd.calls kj95 a2_0 a2_1 t341 _ A114.out).mono ?_
                                          rintro e w' ⟨rfl, ⟨nd, rfl⟩⟩
                                          refine ⟨_, rfl, ?_⟩
                                          refine hK.out _ _ sqz (fun hHeld => ?_)
                                          clear hK K
                                          refine sqnm ?_
                                          refine sqo HT_ 7 157 (fun K hK => ?_)
                                          refine sqG Try.func156 #[.int .i64 a1_0, .int .i64 t341] ?_
                                          with_reducible refine (spec_l9Gcd.calls kj95 a1_0 t341 t342 _ A115.out).mono ?_
                                          rintro e w' ⟨rfl, ⟨nd, rfl⟩⟩
                                          refine ⟨_, rfl, ?_⟩
                                          refine hK.out _ _ sqz (fun hHeld => ?_)
                                          clear hK K
                                          refine sqnm ?_
                                          refine sqp HT_ 8 11 ?_
                                          refine done_ (done_of HT_.out (by kernel_rfl)) ?_
                                          try go_wp2_with (first | ((with_reducible refine gate_callee (f := 153) rfl ?_); refine sqL (some 160) Try.func153 #[] ?_; (with_reducible refine (spec_l9All.calls  t343 t344 _ A117.out).mono ?_); rintro e w119 ⟨rfl, hb⟩; refine ⟨_, rfl, ?_⟩; replace BK310 := sqb BK310 hb; replace BK311 := sqb BK311 hb; replace BK312 := sqb BK312 hb; replace HB := sqs HB hb; (try clear hb); have hnb120 := NB312_310.out; have hnc120 := NB310_312.out; have hnb121 := NB312_311.out; have hnc121 := NB311_312.out; obtain ⟨hcz122_0, hcz122_1, hfz122_0, hfz122_1⟩ := sqc2 BK312))
                                          refine bodyPost_ret (results_cell_row rfl _ _ gb312 26 #[.int .i64 t343, .int .i64 t344] (0, 0) _ rfl (by refine sqt ?_; refine blk_put (cs := #[.int .i64 t343, .int .i64 0]) ?_ 1 _ rfl; refine sqt ?_; refine blk_put (cs := #[.int .i64 0, .int .i64 0]) ?_ 0 _ rfl; refine sqt ?_; exact BK312.out) Try.underlying26 rfl (by kernel_rfl)) rfl ?_
                                          exact sqe HB
                                        · rw [if_neg c116] at H
                                          have c116b0 : (t342 == 0) = false := beq_eq_false_iff_ne.mpr c116
                                          have c116b1 : (t342 != 0) = true := bne_iff_ne.mpr c116
                                          replace H := Option.bind_eq_some_iff.mp H
                                          obtain ⟨⟨t345, t346⟩, A1230, H⟩ := H
                                          replace H : (some (t345, t346)) = some (r1, r2) := H
                                          have A123 := Aside0.mk A1230
                                          clear A1230
                                          simp only [Option.some.injEq, Prod.mk.injEq] at H
                                          obtain ⟨rfl, rfl⟩ := H
                                          try go_wp2
                                          replace BK310 := Aside0.mk (blk_drew BK310.out)
                                          replace BK311 := Aside0.mk (blk_drew BK311.out)
                                          replace BK312 := Aside0.mk (blk_drew BK312.out)
                                          replace HB := Aside0.mk (below_drew1 HB.out)
                                          refine start_ (n := 9) (S := fun w' => w'.cell? ⟨gb310, 0, none⟩ = some (.int .i64 a1_0) ∧ w'.cell? ⟨gb310, 1, none⟩ = some (.int .i64 a1_1) ∧ w'.cell? ⟨gb311, 0, none⟩ = some (.int .i64 a2_0) ∧ w'.cell? ⟨gb311, 1, none⟩ = some (.int .i64 a2_1)) (ds := []) #[false, false, false, false, false, false, false, false, false] (by kernel_rfl) rfl rfl ⟨(blk_cell BK310.out 0).trans rfl, (blk_cell BK310.out 1).trans rfl, (blk_cell BK311.out 0).trans rfl, (blk_cell BK311.out 1).trans rfl⟩ (fun hHeld => ?_); refine with_tabW spec_RestDo.tab21 spec_RestDo.bits21 (fun HT_ HW_ => ?_)
                                          generalize wc.drew = w124 at BK310 BK311 BK312 HB hHeld ⊢
                                          refine sqp HT_ 0 150 ?_
                                          refine sqp HT_ 2 152 ?_
                                          refine sqp HT_ 4 154 ?_
                                          refine sqw HT_ HW_ 1 151 hHeld ?_
                                          refine sqw HT_ HW_ 3 153 hHeld ?_
                                          refine sqw HT_ HW_ 5 155 hHeld ?_
                                          refine sqo HT_ 6 156 (fun K hK => ?_)
                                          refine sqG Try.func156 #[.int .i64 a2_0, .int .i64 a2_1] ?_
                                          with_reducible refine (spec_l9Gcd.calls kj95 a2_0 a2_1 t341 _ A114.out).mono ?_
                                          rintro e w' ⟨rfl, ⟨nd, rfl⟩⟩
                                          refine ⟨_, rfl, ?_⟩
                                          refine hK.out _ _ sqz (fun hHeld => ?_)
                                          clear hK K
                                          refine sqnm ?_
                                          refine sqo HT_ 7 157 (fun K hK => ?_)
                                          refine sqG Try.func156 #[.int .i64 a1_0, .int .i64 t341] ?_
                                          with_reducible refine (spec_l9Gcd.calls kj95 a1_0 t341 t342 _ A115.out).mono ?_
                                          rintro e w' ⟨rfl, ⟨nd, rfl⟩⟩
                                          refine ⟨_, rfl, ?_⟩
                                          refine hK.out _ _ sqz (fun hHeld => ?_)
                                          clear hK K
                                          refine sqnm ?_
                                          refine sqp HT_ 8 11 ?_
                                          refine done_ (done_of HT_.out (by kernel_rfl)) ?_
                                          have hnb125 := NB310_311.out
                                          have hnc125 := NB311_310.out
                                          have hnb126 := NB310_312.out
                                          have hnc126 := NB312_310.out
                                          obtain ⟨hcz127_0, hcz127_1, hfz127_0, hfz127_1⟩ := sqc2 BK310
                                          try go_wp2_with (first | ((with_reducible refine gate_callee (f := 155) rfl ?_); refine sqL (some 164) Try.func155 #[.int .i64 t342, .int .i64 a1_1] ?_; (with_reducible refine (spec_l9Make.calls kj95 t342 a1_1 t345 t346 _ A123.out).mono ?_); rintro e w128 ⟨rfl, hb⟩; refine ⟨_, rfl, ?_⟩; replace BK310 := sqb BK310 hb; replace BK311 := sqb BK311 hb; replace BK312 := sqb BK312 hb; replace HB := sqs HB hb; (try clear hb); have hnb129 := NB312_311.out; have hnc129 := NB311_312.out; obtain ⟨hcz130_0, hcz130_1, hfz130_0, hfz130_1⟩ := sqc2 BK312))
                                          refine bodyPost_ret (results_cell_row rfl _ _ gb312 26 #[.int .i64 t345, .int .i64 t346] (0, 0) _ rfl (by refine sqt ?_; refine blk_put (cs := #[.int .i64 t345, .int .i64 0]) ?_ 1 _ rfl; refine sqt ?_; refine blk_put (cs := #[.int .i64 0, .int .i64 0]) ?_ 0 _ rfl; refine sqt ?_; exact BK312.out) Try.underlying26 rfl (by kernel_rfl)) rfl ?_
                                          exact sqe HB
                                      · rw [if_neg c113] at H
                                        have c113b0 : (a0 == 5) = false := beq_eq_false_iff_ne.mpr c113
                                        have c113b1 : (a0 != 5) = true := bne_iff_ne.mpr c113
                                        replace H := Option.bind_eq_some_iff.mp H
                                        obtain ⟨⟨t347, t348⟩, A1310, H⟩ := H
                                        replace H : (some (t347, t348)) = some (r1, r2) := H
                                        have A131 := Aside0.mk A1310
                                        clear A1310
                                        simp only [Option.some.injEq, Prod.mk.injEq] at H
                                        obtain ⟨rfl, rfl⟩ := H
                                        go_wp2_with (first | ((with_reducible refine gate_callee (f := 153) rfl ?_); refine sqL (some 165) Try.func153 #[] ?_; (with_reducible refine (spec_l9All.calls  t347 t348 _ A131.out).mono ?_); rintro e w132 ⟨rfl, hb⟩; refine ⟨_, rfl, ?_⟩; replace BK310 := sqb BK310 hb; replace BK311 := sqb BK311 hb; replace BK312 := sqb BK312 hb; replace HB := sqs HB hb; (try clear hb); have hnb133 := NB312_310.out; have hnc133 := NB310_312.out; have hnb134 := NB312_311.out; have hnc134 := NB311_312.out; obtain ⟨hcz135_0, hcz135_1, hfz135_0, hfz135_1⟩ := sqc2 BK312))
                                        refine bodyPost_ret (results_cell_row rfl _ _ gb312 26 #[.int .i64 t347, .int .i64 t348] (0, 0) _ rfl (by refine sqt ?_; refine blk_put (cs := #[.int .i64 t347, .int .i64 0]) ?_ 1 _ rfl; refine sqt ?_; refine blk_put (cs := #[.int .i64 0, .int .i64 0]) ?_ 0 _ rfl; refine sqt ?_; exact BK312.out) Try.underlying26 rfl (by kernel_rfl)) rfl ?_
                                        exact sqe HB

end Go.Proofs.Ytkekcenlleebeaa.PFnRestDo
