/- Functions of the program as plain Lean functions, and that calls of them come to what these tell. Conditions: those in each law. -/
import Derived.Test.YtkekcenlleebeaaSq
import Derived.Test.YtkekcenlleebeaaDFnValLattice
import Derived.Test.YtkekcenlleebeaaQFnValLatticex0
import Derived.Test.YtkekcenlleebeaaQFnValLatticex5
import Derived.Test.YtkekcenlleebeaaQFnValLatticex19
namespace Go.Proofs.Ytkekcenlleebeaa.PFnValLattice
open Go.RowKit Go.Proofs.Ytkekcenlleebeaa.Sq Go.Proofs.YtkekcenlleebeaaW.PrintWords Go.Proofs.YtkekcenlleebeaaW.PrintLast Go.Proofs.YtkekcenlleebeaaW.PrintMore
attribute [local go_sem] max2_int min2_int max_two min_two max_three min_three max_four min_four   -- for this text's walks alone
set_option linter.unusedVariables false
set_option linter.unusedSimpArgs false

/-! ### impl_restGcd: function 152 -/
set_option maxHeartbeats 8000000 in
set_option maxRecDepth 100000 in
theorem impl_restGcd.calls (k : Nat) (A0 : Option Addr) (c0 : Nat) (l0 : List Int) (r : Int) (w : World) (hr0 : Kd.C (Kd.int .i64) w A0 l0.length l0) (hc0 : l0.length ≤ c0) (h : impl_restGcd.f k l0 = some r) :
  Calls Try.prog 152 #[.slice A0 l0.length c0] w fun e w' => e = .returned (.int .i64 r) ∧ Drawn0 w w' := by
 have HR0 := Aside0.mk hr0
 have HC0 := Aside0.mk hc0
 clear hr0 hc0
 have H := h
 unfold impl_restGcd.f at H
 clear h
 have H' := Aside0.mk H
 clear H
 go_enter Try.func152, Try.ntmps152
 go_wp2
 repeat (go_quiet (fail); try go_wp2)
 go_loopg [3, 8] k (fun kq v3 v8 w' => ∃ (x3_1 : Int) (x8_1 : Int), v3 = .int .i64 x3_1 ∧ v8 = .int .i64 x8_1 ∧ Aside0 (impl_restGcd.l0 kq x3_1 l0 (l0.length : Int) x8_1 = some r) ∧ Aside0 (kq ≤ k) ∧ Drawn0 w w')
 case atStart => exact ⟨(0), (0), (by first | rfl | (simp; done) | (simp [*]; done)), (by first | rfl | (simp; done) | (simp [*]; done)), H', ⟨Nat.le_refl _⟩, by repeat (first | exact Drawn0.refl _ | apply Drawn0.step)⟩
 case round =>
  clear H'
  obtain ⟨x3_1, x8_1, rfl, rfl, HA, HK1, ⟨m1, rfl⟩⟩ := hrel
  cases gk with
  | zero => exact absurd HA.out (by simp [impl_restGcd.l0])
  | succ k1 =>
   have H := HA.out
   clear HA
   simp only [impl_restGcd.l0] at H
   replace H := sqi H
   rcases H with ⟨c2, H⟩ | ⟨c2, H⟩
   ·have c2b0 := decide_eq_false c2
    clear c2
    replace H := sqj H
    rcases H with ⟨c6, H⟩ | ⟨c6, H⟩
    ·have c6b0 := decide_eq_true c6
     clear c6
     obtain rfl := Option.some.inj H
     go_wp2
     repeat (go_quiet (fail); try go_wp2)
     go_ret
     exact ⟨by first | rfl | (simp; done) | (simp [*]; done), by repeat (first | exact Drawn0.refl _ | apply Drawn0.step)⟩
    have c6b0 := decide_eq_false c6
    clear c6
    obtain rfl := Option.some.inj H
    go_wp2
    repeat (go_quiet (fail); try go_wp2)
    go_ret
    exact ⟨by first | rfl | (simp; done) | (simp [*]; done), by repeat (first | exact Drawn0.refl _ | apply Drawn0.step)⟩
   have c2b0 := decide_eq_true c2
   clear c2
   replace H := sqi H
   rcases H with ⟨c3, H⟩ | ⟨c3, H⟩
   ·exact absurd H (by simp)
   have c3b0 := decide_eq_true c3
   clear c3
   replace H := sqi H
   rcases H with ⟨c4, H⟩ | ⟨c4, H⟩
   ·exact absurd H (by simp)
   have c4b0 := decide_eq_true c4
   clear c4
   have H' := Aside0.mk H
   clear H
   have p512 : 0 ≤ (x8_1 : Int) := sqd
   have q512 : x8_1 < (l0.length : Int) := sqd
   obtain ⟨ad512, e512, hx512_0⟩ := Kd.at_int HR0.out x8_1 p512 q512
   cases e512
   replace p512 := eq_true p512
   replace q512 := eq_true q512
   go_wp2
   repeat (go_quiet (fail); try go_wp2)
   go_loopg [3, 5] k1 (fun kq v3 v5 w' => ∃ (x3_2 : Int) (x5_2 : Int), v3 = .int .i64 x3_2 ∧ v5 = .int .i64 x5_2 ∧ Aside0 (impl_restGcd.l1 kq x3_2 x5_2 l0 (l0.length : Int) x8_1 = some r) ∧ Aside0 (kq ≤ k1) ∧ Drawn0 w w')
   case atStart => exact ⟨(x3_1), (rd l0 x8_1), (by first | rfl | (simp; done) | (simp [*]; done)), (by first | rfl | (simp; done) | (simp [*]; done)), H', ⟨Nat.le_refl _⟩, by repeat (first | exact Drawn0.refl _ | apply Drawn0.step)⟩
   case round =>
    clear H'
    obtain ⟨x3_2, x5_2, rfl, rfl, HA, HK2, ⟨m2, rfl⟩⟩ := hrel
    cases gk with
    | zero => exact absurd HA.out (by simp [impl_restGcd.l1])
    | succ k2 =>
     have H := HA.out
     clear HA
     simp only [impl_restGcd.l1] at H
     replace H := sqi H
     rcases H with ⟨c5, H⟩ | ⟨c5, H⟩
     ·have c5b0 : (x5_2 == 0) = false := beq_eq_false_iff_ne.mpr c5
      have c5b1 : (x5_2 != 0) = true := bne_iff_ne.mpr c5
      have H' := Aside0.mk H
      clear H
      go_wp2
      repeat (go_quiet (fail); try go_wp2)
      go_roundg k2
      case measure => have := HK1.out; have := HK2.out; omega
      case rel => exact ⟨(x5_2), (Int.tmod x3_2 x5_2), (by first | rfl | (simp; done) | (simp [*]; done)), (by first | rfl | (simp; done) | (simp [*]; done)), H', ⟨by have := HK1.out; have := HK2.out; omega⟩, by repeat (first | exact Drawn0.refl _ | apply Drawn0.step)⟩
     have c5b0 : (x5_2 == 0) = true := beq_iff_eq.mpr c5
     have c5b1 : (x5_2 != 0) = false := bne_eq_false_iff_eq.mpr c5
     clear c5
     have H' := Aside0.mk H
     clear H
     go_wp2
     repeat (go_quiet (fail); try go_wp2)
     go_roundg k2
     case measure => have := HK1.out; have := HK2.out; omega
     case rel => exact ⟨(x3_2), (wrap64 (x8_1 + 1)), (by first | rfl | (simp; done) | (simp [*]; done)), (by first | rfl | (simp; done) | (simp [*]; done)), H', ⟨by have := HK1.out; have := HK2.out; omega⟩, by repeat (first | exact Drawn0.refl _ | apply Drawn0.step)⟩

/-! ### impl_restOf: function 151 -/
set_option maxHeartbeats 8000000 in
set_option maxRecDepth 100000 in
theorem impl_restOf.calls (k : Nat) (a0 : Int) (a1 : Int) (r1 : Int) (r2 : Int) (w : World) (h : impl_restOf.f k a0 a1 = some (r1, r2)) :
  Calls Try.prog 151 #[.int .i64 a0, .int .i64 a1] w fun e w' => e = .returned (.agg #[.int .i64 r1, .int .i64 r2]) ∧ Below w.heap.size w w' := by
 have hu26 := Try.underlying26
 have HB := Aside0.mk (Below.refl w.heap.size w)
 have H := h
 unfold impl_restOf.f at H
 clear h
 replace H := sqi H
 rcases H with ⟨c3, H⟩ | ⟨c3, H⟩
 ·have c3b0 : decide (65536 < a1) = false := decide_eq_false c3
  clear c3
  replace H := sqj H
  rcases H with ⟨c17, H⟩ | ⟨c17, H⟩
  ·have c17b0 : (a1 == 0) = true := beq_iff_eq.mpr c17
   have c17b1 : (a1 != 0) = false := bne_eq_false_iff_eq.mpr c17
   clear c17
   simp only [Option.some.injEq, Prod.mk.injEq] at H
   obtain ⟨rfl, rfl⟩ := H
   go_enter Try.func151, Try.ntmps151
   go_wp2_with (first | ((with_reducible refine gate_dst (N := 4) rfl ?_); refine sqx 4 #[.int .i64 0, .int .i64 0] 26 ?_; intro gb513 hg w18 hbox hb; have BK513 := Aside0.mk hbox; have GW513 := sqg HB hg; replace HB := sqs HB hb; clear hb hbox hg; obtain ⟨_, _, _, _⟩ := sqc2 BK513))
   refine bodyPost_ret (results_cell_row rfl _ _ gb513 26 #[.int .i64 0, .int .i64 a0] (0, 0) _ rfl (sqP BK513) Try.underlying26 rfl (by kernel_rfl)) rfl ?_
   exact sqe HB
  have c17b0 : (a1 == 0) = false := beq_eq_false_iff_ne.mpr c17
  have c17b1 : (a1 != 0) = true := bne_iff_ne.mpr c17
  replace H := sqbi H
  obtain ⟨t519, A20, H⟩ := H
  try dsimp only at H
  simp only [Option.some.injEq, Prod.mk.injEq] at H
  obtain ⟨rfl, rfl⟩ := H
  go_enter Try.func151, Try.ntmps151
  go_wp2_with (first | ((with_reducible refine gate_dst (N := 4) rfl ?_); refine sqx 4 #[.int .i64 0, .int .i64 0] 26 ?_; intro gb513 hg w21 hbox hb; have BK513 := Aside0.mk hbox; have GW513 := sqg HB hg; replace HB := sqs HB hb; clear hb hbox hg) | ((with_reducible refine gate_callee (f := 98) rfl ?_); refine sqL (some 17) Try.func98 #[.int .i64 a0, .int .i64 a1] ?_; (with_reducible refine (impl_restMod.calls a0 a1 t519 _ A20.out).mono ?_); rintro e w' ⟨rfl, ⟨nd, rfl⟩⟩; refine ⟨_, rfl, ?_⟩; (try (rw [drewN_self w21]; generalize hq_ : World.drewN w21 _ = w21; replace BK513 := sqq BK513 hq_; replace HB := sqr HB hq_; clear hq_; obtain ⟨hqz1_0, hqz1_1, hqf1_0, hqf1_1⟩ := sqc2 BK513)); obtain ⟨_, _, _, _⟩ := sqc2 BK513))
  refine bodyPost_ret (results_cell_row rfl _ _ gb513 26 #[.int .i64 a1, .int .i64 t519] (0, 0) _ rfl (sqP BK513) Try.underlying26 rfl (by kernel_rfl)) rfl ?_
  exact sqe HB
 have c3b0 : decide (65536 < a1) = true := decide_eq_true c3
 clear c3
 obtain ⟨y514, hy514⟩ : ∃ y_ : List Int, y_ = (([a1, 65536] : List Int)) := ⟨_, rfl⟩
 replace H : ((impl_restGcd.f k y514).bind fun t517 => (if t517 = 0 then (some (0, a0)) else ((impl_restMod.f a0 t517).bind fun t518 => (some (t517, t518))))) = some (r1, r2) := by first | (rw [hy514]; with_reducible exact H) | (have H2_ := (Option.bind_some _ _).symm.trans H; rw [hy514]; with_reducible exact H2_) | (have H2_ := (Option.bind_some _ _).symm.trans H; with_reducible exact H2_) | with_reducible exact H | (rw [hy514]; exact H) | exact H
 have Ny514 := Aside0.mk hy514
 clear hy514
 replace H := sqbi H
 obtain ⟨t517, A4, H⟩ := H
 try dsimp only at H
 replace H := sqj H
 rcases H with ⟨c5, H⟩ | ⟨c5, H⟩
 ·have c5b0 : (t517 == 0) = true := beq_iff_eq.mpr c5
  have c5b1 : (t517 != 0) = false := bne_eq_false_iff_eq.mpr c5
  clear c5
  simp only [Option.some.injEq, Prod.mk.injEq] at H
  obtain ⟨rfl, rfl⟩ := H
  go_enter Try.func151, Try.ntmps151
  go_wp2_with (first | ((with_reducible refine gate_dst (N := 4) rfl ?_); refine sqx 4 #[.int .i64 0, .int .i64 0] 26 ?_; intro gb513 hg w6 hbox hb; have BK513 := Aside0.mk hbox; have GW513 := sqg HB hg; replace HB := sqs HB hb; clear hb hbox hg) | ((with_reducible refine gate_dst (N := 8) rfl ?_); refine Kd.R_lit (Kd.int .i64) _ 3 ?hg (N := 8) ?hd (xs := ([a1, 65536] : List Int)) (inner := [.int .i64 a1, .int .i64 65536]) (ok := fun _ => True) (okp := fun _ => True) ?hr ?hp (fun _ hk => hk) trivial (Below.refl _ _) (Nat.le_refl _) (by simp) ?_; (case hd => rfl); (case hg => rfl); (case hr => first | (go_simp; done) | (go_simp; rfl)); (case hp => exact (Reps.one (show Kd.M (Kd.int .i64) _ _ _ a1 [.int .i64 a1] from rfl) (Reps.one (show Kd.M (Kd.int .i64) _ _ _ 65536 [.int .i64 65536] from rfl) (Reps.none _ _)))); intro v515 w7 ho8 hb hg_ hnew_; clear hg_ hnew_; (first | rw [← Ny514.out] at ho8 | (simp only [Int.reduceToNat] at ho8; rw [← Ny514.out] at ho8)); have HO516 := Aside0.mk (Kd.R_lower ho8 (below_size (sqB HB))); replace BK513 := sqb BK513 hb; replace HB := sqs HB hb; clear hb ho8; obtain ⟨Ao9, co9, eo9⟩ := Kd.R_slice HO516.out; subst eo9) | ((with_reducible refine gate_callee (f := 152) rfl ?_); refine sqL (some 9) Try.func152 #[.slice Ao9 y514.length co9] ?_; (with_reducible refine (impl_restGcd.calls k _ _ y514 t517 _ ?side1 ?side2 A4.out).mono ?_); (case side1 => exact sqC (Kd.R_reads' HO516.out).2.2); (case side2 => exact (Kd.R_reads' HO516.out).2.1); rintro e w' ⟨rfl, ⟨nd, rfl⟩⟩; refine ⟨_, rfl, ?_⟩; (try (rw [drewN_self w7]; generalize hq_ : World.drewN w7 _ = w7; have n0_ : Aside0 (Kd.R (Kd.int .i64) 3 w7 w.heap.size (fun _ => True) (.slice Ao9 y514.length co9) y514) := ⟨by rw [← hq_]; exact (sqy HO516.out)⟩; have n1_ : Aside0 (w7.heap[gb513]? = some (.cells #[.int .i64 0, .int .i64 0] 26 (0, 0))) := ⟨by rw [← hq_]; exact (sqt BK513.out)⟩; have n2_ : Aside0 (Below w.heap.size w w7) := ⟨by rw [← hq_]; exact (sqB HB)⟩; clear HO516 BK513 HB hq_; have HO516 := n0_; have BK513 := n1_; have HB := n2_; clear n0_ n1_ n2_)); obtain ⟨_, _, _, _⟩ := sqc2 BK513))
  refine bodyPost_ret (results_cell_row rfl _ _ gb513 26 #[.int .i64 0, .int .i64 a0] (0, 0) _ rfl (sqP BK513) Try.underlying26 rfl (by kernel_rfl)) rfl ?_
  exact sqe HB
 have c5b0 : (t517 == 0) = false := beq_eq_false_iff_ne.mpr c5
 have c5b1 : (t517 != 0) = true := bne_iff_ne.mpr c5
 replace H := sqbi H
 obtain ⟨t518, A11, H⟩ := H
 try dsimp only at H
 simp only [Option.some.injEq, Prod.mk.injEq] at H
 obtain ⟨rfl, rfl⟩ := H
 go_enter Try.func151, Try.ntmps151
 go_wp2_with (first | ((with_reducible refine gate_dst (N := 4) rfl ?_); refine sqx 4 #[.int .i64 0, .int .i64 0] 26 ?_; intro gb513 hg w12 hbox hb; have BK513 := Aside0.mk hbox; have GW513 := sqg HB hg; replace HB := sqs HB hb; clear hb hbox hg) | ((with_reducible refine gate_dst (N := 8) rfl ?_); refine Kd.R_lit (Kd.int .i64) _ 3 ?hg (N := 8) ?hd (xs := ([a1, 65536] : List Int)) (inner := [.int .i64 a1, .int .i64 65536]) (ok := fun _ => True) (okp := fun _ => True) ?hr ?hp (fun _ hk => hk) trivial (Below.refl _ _) (Nat.le_refl _) (by simp) ?_; (case hd => rfl); (case hg => rfl); (case hr => first | (go_simp; done) | (go_simp; rfl)); (case hp => exact (Reps.one (show Kd.M (Kd.int .i64) _ _ _ a1 [.int .i64 a1] from rfl) (Reps.one (show Kd.M (Kd.int .i64) _ _ _ 65536 [.int .i64 65536] from rfl) (Reps.none _ _)))); intro v515 w13 ho14 hb hg_ hnew_; clear hg_ hnew_; (first | rw [← Ny514.out] at ho14 | (simp only [Int.reduceToNat] at ho14; rw [← Ny514.out] at ho14)); have HO516 := Aside0.mk (Kd.R_lower ho14 (below_size (sqB HB))); replace BK513 := sqb BK513 hb; replace HB := sqs HB hb; clear hb ho14; obtain ⟨Ao15, co15, eo15⟩ := Kd.R_slice HO516.out; subst eo15) | ((with_reducible refine gate_callee (f := 152) rfl ?_); refine sqL (some 9) Try.func152 #[.slice Ao15 y514.length co15] ?_; (with_reducible refine (impl_restGcd.calls k _ _ y514 t517 _ ?side1 ?side2 A4.out).mono ?_); (case side1 => exact sqC (Kd.R_reads' HO516.out).2.2); (case side2 => exact (Kd.R_reads' HO516.out).2.1); rintro e w' ⟨rfl, ⟨nd, rfl⟩⟩; refine ⟨_, rfl, ?_⟩; (try (rw [drewN_self w13]; generalize hq_ : World.drewN w13 _ = w13; have n0_ : Aside0 (Kd.R (Kd.int .i64) 3 w13 w.heap.size (fun _ => True) (.slice Ao15 y514.length co15) y514) := ⟨by rw [← hq_]; exact (sqy HO516.out)⟩; have n1_ : Aside0 (w13.heap[gb513]? = some (.cells #[.int .i64 0, .int .i64 0] 26 (0, 0))) := ⟨by rw [← hq_]; exact (sqt BK513.out)⟩; have n2_ : Aside0 (Below w.heap.size w w13) := ⟨by rw [← hq_]; exact (sqB HB)⟩; clear HO516 BK513 HB hq_; have HO516 := n0_; have BK513 := n1_; have HB := n2_; clear n0_ n1_ n2_))) | ((with_reducible refine gate_callee (f := 98) rfl ?_); refine sqL (some 17) Try.func98 #[.int .i64 a0, .int .i64 t517] ?_; (with_reducible refine (impl_restMod.calls a0 t517 t518 _ A11.out).mono ?_); rintro e w' ⟨rfl, ⟨nd, rfl⟩⟩; refine ⟨_, rfl, ?_⟩; (try (rw [drewN_self w13]; generalize hq_ : World.drewN w13 _ = w13; have n0_ : Aside0 (Kd.R (Kd.int .i64) 3 w13 w.heap.size (fun _ => True) (.slice Ao15 y514.length co15) y514) := ⟨by rw [← hq_]; exact (sqy HO516.out)⟩; have n1_ : Aside0 (w13.heap[gb513]? = some (.cells #[.int .i64 0, .int .i64 0] 26 (0, 0))) := ⟨by rw [← hq_]; exact (sqt BK513.out)⟩; have n2_ : Aside0 (Below w.heap.size w w13) := ⟨by rw [← hq_]; exact (sqB HB)⟩; clear HO516 BK513 HB hq_; have HO516 := n0_; have BK513 := n1_; have HB := n2_; clear n0_ n1_ n2_)); obtain ⟨_, _, _, _⟩ := sqc2 BK513))
 refine bodyPost_ret (results_cell_row rfl _ _ gb513 26 #[.int .i64 t517, .int .i64 t518] (0, 0) _ rfl (sqP BK513) Try.underlying26 rfl (by kernel_rfl)) rfl ?_
 exact sqe HB

/-! ### impl_RestJoin: function 185 -/
def impl_RestJoin.T3 : Bool × List (List Nat × List Nat) := (true, [([], []), ([0], [0]), ([], []), ([2], [2]), ([], []), ([4], [4]), ([], []), ([6], [6]), ([], []), ([8], [8]), ([7, 9], [7, 9]), ([3, 5, 10], [3, 5, 10]), ([11], [11]), ([1, 12, 12], [1, 12]), ([13, 13, 0, 1, 2, 3, 4, 5, 6, 7, 8, 9, 10, 11, 12, 13], [13])])
def impl_RestJoin.B3 : List Nat := [0, 1, 0, 4, 0, 16, 0, 64, 0, 256, 960, 2044, 4092, 8191, 16383]
theorem impl_RestJoin.tab3 : rtab .any (opsOf Try.f185 3) = impl_RestJoin.T3 := by kernel_rfl
theorem impl_RestJoin.bits3 : waitsOk impl_RestJoin.T3.2 impl_RestJoin.B3 = true := by kernel_rfl
set_option maxHeartbeats 8000000 in
set_option maxRecDepth 100000 in
theorem impl_RestJoin.calls (k : Nat) (a0_0 : Int) (a0_1 : Int) (a1_0 : Int) (a1_1 : Int) (r1 : Int) (r2 : Int) (w : World) (h : impl_RestJoin.f k a0_0 a0_1 a1_0 a1_1 = some (r1, r2)) :
  Calls Try.prog 185 #[.agg #[.int .i64 a0_0, .int .i64 a0_1], .agg #[.int .i64 a1_0, .int .i64 a1_1]] w fun e w' => e = .returned (.agg #[.int .i64 r1, .int .i64 r2]) ∧ Below w.heap.size w w' := by
 have hu26 := Try.underlying26
 have HB := Aside0.mk (Below.refl w.heap.size w)
 have H := h
 unfold impl_RestJoin.f at H
 clear h
 have HC3 := Aside0.mk H
 clear H
 go_enter Try.func185, Try.ntmps185
 go_upto_region 1 with (first | ((with_reducible refine gate_dst (N := 2) rfl ?_); refine sqx 2 #[.int .i64 a0_0, .int .i64 a0_1] 26 ?_; intro gb520 hg w4 hbox hb; have BK520 := Aside0.mk hbox; have GW520 := sqg HB hg; replace HB := sqs HB hb; clear hb hbox hg) | ((with_reducible refine gate_dst (N := 3) rfl ?_); refine sqx 3 #[.int .i64 a1_0, .int .i64 a1_1] 26 ?_; intro gb521 hg w5 hbox hb; have BK521 := Aside0.mk hbox; have GW521 := sqg HB hg; have NB520_521 := sqn BK520 hg; have NB521_520 := sqm BK520 hg; replace BK520 := sqb BK520 hb; replace HB := sqs HB hb; clear hb hbox hg) | ((with_reducible refine gate_dst (N := 4) rfl ?_); refine sqx 4 #[.int .i64 0, .int .i64 0] 26 ?_; intro gb522 hg w6 hbox hb; have BK522 := Aside0.mk hbox; have GW522 := sqg HB hg; have NB520_522 := sqn BK520 hg; have NB522_520 := sqm BK520 hg; have NB521_522 := sqn BK521 hg; have NB522_521 := sqm BK521 hg; refine sqM2 BK520 BK521 hb ?_; clear BK520 BK521; intro BK520 BK521; replace HB := sqs HB hb; clear hb hbox hg))
 (try simp only [Act.put, List.setIfInBounds_toArray, List.set_cons_zero, List.set_cons_succ])
 go_cut [12] (fun v12 wc => ∃ (kq : Nat) (x12_2 : Bool), v12 = .bool x12_2 ∧ Aside0 (impl_RestJoin.j0 kq x12_2 a0_0 a0_1 a1_0 a1_1 = some (r1, r2)) ∧ Aside0 (kq ≤ k) ∧ Aside0 (wc.heap[gb520]? = some (.cells #[.int .i64 a0_0, .int .i64 a0_1] 26 (0, 0))) ∧ Aside0 (wc.heap[gb521]? = some (.cells #[.int .i64 a1_0, .int .i64 a1_1] 26 (0, 0))) ∧ Aside0 (wc.heap[gb522]? = some (.cells #[.int .i64 0, .int .i64 0] 26 (0, 0))) ∧ Aside0 (Below w.heap.size w wc))
 case first =>
  have H := HC3.out
  clear HC3
  replace H := sqbi H
  obtain ⟨t523, A7, H⟩ := H
  try dsimp only at H
  rcases sqI (t523 = true) with c8 | c8
  ·replace c8 := Bool.eq_false_iff.mpr c8
   subst c8
   have H1 : (impl_RestJoin.j0 k true a0_0 a0_1 a1_0 a1_1) = some (r1, r2) := by rw [if_neg (show ¬ (false = true) by decide)] at H; exact H
   clear H
   have H := H1
   clear H1
   have H' := Aside0.mk H
   clear H
   obtain ⟨_, _, _, _⟩ := sqN2 NB520_521 NB520_522
   obtain ⟨_, _, _, _⟩ := sqc2 BK520
   go_wp2_with (first | ((with_reducible refine gate_callee (f := 65) rfl ?_); refine sqL (some 6) Try.func65 #[.agg #[.int .i64 a0_0, .int .i64 a0_1]] ?_; (with_reducible refine (impl_RestOk.calls a0_0 a0_1 false _ A7.out).mono ?_); rintro e w20 ⟨rfl, hb⟩; refine ⟨_, rfl, ?_⟩; refine sqM3 BK520 BK521 BK522 hb ?_; clear BK520 BK521 BK522; intro BK520 BK521 BK522; replace HB := sqs HB hb; (try clear hb)))
   go_meet
   case rel => exact ⟨_, (true), (by first | rfl | (simp; done) | (simp [*]; done)), H', ⟨by first | omega | exact Nat.le_refl _⟩, sqk BK520, sqk BK521, sqk BK522, sqh HB⟩
  subst c8
  have H1 : ((impl_RestOk.f a1_0 a1_1).bind fun t524 => (impl_RestJoin.j0 k (!t524) a0_0 a0_1 a1_0 a1_1)) = some (r1, r2) := by rw [if_pos rfl] at H; exact H
  clear H
  have H := H1
  clear H1
  replace H := sqbi H
  obtain ⟨t524, A9, H⟩ := H
  try dsimp only at H
  have H' := Aside0.mk H
  clear H
  obtain ⟨_, _, _, _⟩ := sqN2 NB520_521 NB520_522
  obtain ⟨_, _, _, _⟩ := sqc2 BK520
  go_wp2_with (first | ((with_reducible refine gate_callee (f := 65) rfl ?_); refine sqL (some 6) Try.func65 #[.agg #[.int .i64 a0_0, .int .i64 a0_1]] ?_; (with_reducible refine (impl_RestOk.calls a0_0 a0_1 true _ A7.out).mono ?_); rintro e w13 ⟨rfl, hb⟩; refine ⟨_, rfl, ?_⟩; refine sqM3 BK520 BK521 BK522 hb ?_; clear BK520 BK521 BK522; intro BK520 BK521 BK522; replace HB := sqs HB hb; (try clear hb); obtain ⟨_, _⟩ := sqN1 NB521_522; obtain ⟨_, _, _, _⟩ := sqc2 BK521) | (go_at_call 65; (with_reducible refine (impl_RestOk.calls a1_0 a1_1 t524 _ A9.out).mono ?_); rintro e w16 ⟨rfl, hb⟩; refine sqM3 BK520 BK521 BK522 hb ?_; clear BK520 BK521 BK522; intro BK520 BK521 BK522; replace HB := sqs HB hb; (try clear hb)))
  go_meet
  case rel => exact ⟨_, (!t524), (by first | rfl | (simp; done) | (simp [*]; done)), H', ⟨by first | omega | exact Nat.le_refl _⟩, sqk BK520, sqk BK521, sqk BK522, sqh HB⟩
 case rest =>
  clear HC3
  obtain ⟨kq, x12_2, rfl, HA, HJ2, BK520, BK521, BK522, HB⟩ := hcut
  cases kq with
  | zero => exact absurd HA.out (by simp [impl_RestJoin.j0])
  | succ kj2 =>
   have H := HA.out
   clear HA
   simp only [impl_RestJoin.j0] at H
   by_cases c21 : x12_2 = true
   ·subst c21
    have H1 : ((impl_restAll.f).bind fun bt525 => (some (bt525.1, bt525.2))) = some (r1, r2) := by rw [if_pos rfl] at H; exact H
    clear H
    have H := H1
    clear H1
    replace H := sqbi H
    obtain ⟨⟨t525, t526⟩, A22, H⟩ := H
    try dsimp only at H
    simp only [Option.some.injEq, Prod.mk.injEq] at H
    obtain ⟨rfl, rfl⟩ := H
    go_wp2_with (first | ((with_reducible refine gate_callee (f := 150) rfl ?_); refine sqL (some 13) Try.func150 #[] ?_; (with_reducible refine (impl_restAll.calls  t525 t526 _ A22.out).mono ?_); rintro e w23 ⟨rfl, hb⟩; refine ⟨_, rfl, ?_⟩; refine sqM3 BK520 BK521 BK522 hb ?_; clear BK520 BK521 BK522; intro BK520 BK521 BK522; replace HB := sqs HB hb; (try clear hb); obtain ⟨_, _, _, _⟩ := sqN2 NB522_520 NB522_521; obtain ⟨_, _, _, _⟩ := sqc2 BK522))
    refine bodyPost_ret (results_cell_row rfl _ _ gb522 26 #[.int .i64 t525, .int .i64 t526] (0, 0) _ rfl (sqP BK522) Try.underlying26 rfl (by kernel_rfl)) rfl ?_
    exact sqe HB
   replace c21 := Bool.eq_false_iff.mpr c21
   subst c21
   have H1 : ((impl_restGcd.f kj2 (([a0_0, a1_0, wrap64 (a0_1 - a1_1)] : List Int))).bind fun t530 => ((impl_restOf.f kj2 a0_1 t530).bind fun bt531 => (some (bt531.1, bt531.2)))) = some (r1, r2) := by rw [if_neg (show ¬ (false = true) by decide)] at H; exact H
   clear H
   have H := H1
   clear H1
   obtain ⟨y527, hy527⟩ : ∃ y_ : List Int, y_ = (([a0_0, a1_0, wrap64 (a0_1 - a1_1)] : List Int)) := ⟨_, rfl⟩
   replace H : ((impl_restGcd.f kj2 y527).bind fun t530 => ((impl_restOf.f kj2 a0_1 t530).bind fun bt531 => (some (bt531.1, bt531.2)))) = some (r1, r2) := by first | (rw [hy527]; with_reducible exact H) | (have H2_ := (Option.bind_some _ _).symm.trans H; rw [hy527]; with_reducible exact H2_) | (have H2_ := (Option.bind_some _ _).symm.trans H; with_reducible exact H2_) | with_reducible exact H | (rw [hy527]; exact H) | exact H
   have Ny527 := Aside0.mk hy527
   clear hy527
   replace H := sqbi H
   obtain ⟨t530, A27, H⟩ := H
   try dsimp only at H
   replace H := sqbi H
   obtain ⟨⟨t531, t532⟩, A28, H⟩ := H
   try dsimp only at H
   simp only [Option.some.injEq, Prod.mk.injEq] at H
   obtain ⟨rfl, rfl⟩ := H
   try go_wp2
   replace BK520 := sqdr BK520
   replace BK521 := sqdr BK521
   replace BK522 := sqdr BK522
   replace HB := sqdB HB
   refine sqst 15 (fun w' => w'.cell? ⟨gb520, 0, none⟩ = some (.int .i64 a0_0) ∧ w'.cell? ⟨gb520, 1, none⟩ = some (.int .i64 a0_1) ∧ w'.cell? ⟨gb521, 0, none⟩ = some (.int .i64 a1_0) ∧ w'.cell? ⟨gb521, 1, none⟩ = some (.int .i64 a1_1)) sqz (fun hHeld => ?_); refine with_tabW impl_RestJoin.tab3 impl_RestJoin.bits3 (fun HT_ HW_ => ?_)
   generalize wc.drew = w29 at BK520 BK521 BK522 HB hHeld ⊢
   refine sqp HT_ 0 14 ?_
   refine sqp HT_ 2 16 ?_
   refine sqp HT_ 4 18 ?_
   refine sqp HT_ 6 20 ?_
   refine sqp HT_ 8 22 ?_
   refine sqw HT_ HW_ 1 15 hHeld ?_
   refine sqw HT_ HW_ 3 17 hHeld ?_
   refine sqw HT_ HW_ 5 19 hHeld ?_
   refine sqw HT_ HW_ 7 21 hHeld ?_
   refine sqw HT_ HW_ 9 23 hHeld ?_
   refine sqp HT_ 10 24 ?_
   refine sqo HT_ 11 25 (fun K hK => ?_)
   refine Kd.R_lit_step (Kd.int .i64) _ 3 ?hg (N := 25) ?hd (xs := ([a0_0, a1_0, wrap64 (a0_1 - a1_1)] : List Int)) (inner := [.int .i64 a0_0, .int .i64 a1_0, .int .i64 (wrap64 (a0_1 - a1_1))]) (ok := fun _ => True) (okp := fun _ => True) ?hr ?hp (fun _ hk => hk) trivial (Below.refl _ _) (Nat.le_refl _) (by simp) ?_; (case hd => rfl); (case hg => rfl); (case hr => first | (go_simp; done) | (go_simp; rfl)); (case hp => exact (Reps.one (show Kd.M (Kd.int .i64) _ _ _ a0_0 [.int .i64 a0_0] from rfl) (Reps.one (show Kd.M (Kd.int .i64) _ _ _ a1_0 [.int .i64 a1_0] from rfl) (Reps.one (show Kd.M (Kd.int .i64) _ _ _ (wrap64 (a0_1 - a1_1)) [.int .i64 (wrap64 (a0_1 - a1_1))] from rfl) (Reps.none _ _)))))
   intro v528 w30 ho31 hb hg_ hnew_
   clear hg_ hnew_
   (first | rw [← Ny527.out] at ho31 | (simp only [Int.reduceToNat] at ho31; rw [← Ny527.out] at ho31))
   have HO529 := Aside0.mk (Kd.R_lower ho31 (below_size (sqB HB)))
   refine sqM3 BK520 BK521 BK522 hb ?_; clear BK520 BK521 BK522; intro BK520 BK521 BK522
   replace HB := sqs HB hb
   clear hb ho31
   obtain ⟨Ao32, co32, eo32⟩ := Kd.R_slice HO529.out
   (first | subst eo32 | (injection eo32 with f1_ f2_ f3_; have f4_ := f1_.symm; have f5_ := f3_.symm; clear f1_ f2_ f3_; subst f4_; subst f5_))
   refine hK.out _ _ sqz (fun hHeld => ?_)
   clear hK K
   refine sqnm ?_
   refine sqo HT_ 12 26 (fun K hK => ?_)
   refine sqG Try.func152 #[.slice Ao32 y527.length co32] ?_
   with_reducible refine (impl_restGcd.calls kj2 _ _ y527 t530 _ ?side1 ?side2 A27.out).mono ?_
   (case side1 => exact sqC (Kd.R_reads' HO529.out).2.2)
   (case side2 => exact (Kd.R_reads' HO529.out).2.1)
   rintro e w' ⟨rfl, ⟨nd, rfl⟩⟩
   refine ⟨_, rfl, ?_⟩
   refine hK.out _ _ sqz (fun hHeld => ?_)
   clear hK K
   refine sqnm ?_
   refine sqo HT_ 13 27 (fun K hK => ?_)
   refine sqG Try.func151 #[.int .i64 a0_1, .int .i64 t530] ?_
   with_reducible refine (impl_restOf.calls kj2 a0_1 t530 t531 t532 _ A28.out).mono ?_
   rintro e w33 ⟨rfl, hb⟩
   refine ⟨_, rfl, ?_⟩
   replace HO529 := Aside0.mk (Kd.R_below (sqy HO529.out) hb)
   replace BK520 := sqb BK520 hb
   replace BK521 := sqb BK521 hb
   replace BK522 := sqb BK522 hb
   replace HB := sqs HB hb
   (try clear hb)
   refine hK.out _ _ sqz (fun hHeld => ?_)
   clear hK K
   refine sqnm ?_
   refine one_ (i := 14) (N := none) #[true, true, true, true, true, true, true, true, true, true, true, true, true, true, true] rfl rfl (one_of HT_.out (by kernel_rfl)) (by decide) (fun K hK => ?_)
   have hs34 : w33.cell? ⟨gb522, 0, none⟩ = some (.int .i64 0) := (blk_cell BK522.out 0).trans rfl
   have hfs34 := blk_frozen BK522.out 0
   have hns34_0 := NB520_522.out
   have hns34_1 := NB521_522.out
   have hms34_0 := NB522_520.out
   have hms34_1 := NB522_521.out
   have hs35 : w33.cell? ⟨gb522, 1, none⟩ = some (.int .i64 0) := (blk_cell BK522.out 1).trans rfl
   have hfs35 := blk_frozen BK522.out 1
   have hns35_0 := NB520_522.out
   have hns35_1 := NB521_522.out
   have hms35_0 := NB522_520.out
   have hms35_1 := NB522_521.out
   refine skip_ (w1 := ?_) (by rfl) rfl ?_ ?_
   rotate_left
   ·go_simp
    rfl
   refine hK.out _ _ ⟨(sqfa NB520_522 ((sqfa NB520_522 (hHeld.1)))), (sqfa NB520_522 ((sqfa NB520_522 (hHeld.2.1)))), (sqfa NB521_522 ((sqfa NB521_522 (hHeld.2.2.1)))), (sqfa NB521_522 ((sqfa NB521_522 (hHeld.2.2.2))))⟩ (fun hHeld => ?_)
   clear hK K
   refine done_ (done_of HT_.out (by kernel_rfl)) ?_
   try go_wp2
   refine bodyPost_ret (results_cell_row rfl _ _ gb522 26 #[.int .i64 t531, .int .i64 t532] (0, 0) _ rfl (sqP BK522) Try.underlying26 rfl (by kernel_rfl)) rfl ?_
   exact sqe HB

end Go.Proofs.Ytkekcenlleebeaa.PFnValLattice
