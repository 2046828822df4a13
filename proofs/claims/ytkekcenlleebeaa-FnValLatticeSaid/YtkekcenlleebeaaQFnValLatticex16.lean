/- Functions of the program as plain Lean functions, and that calls of them come to what these tell. Conditions: those in each law. -/
import Derived.Test.YtkekcenlleebeaaSq
import Derived.Test.YtkekcenlleebeaaDFnValLattice
import Derived.Test.YtkekcenlleebeaaQFnValLatticex0
import Derived.Test.YtkekcenlleebeaaQFnValLatticex6
import Derived.Test.YtkekcenlleebeaaQFnValLatticex8
namespace Go.Proofs.Ytkekcenlleebeaa.PFnValLattice
open Go.RowKit Go.Proofs.Ytkekcenlleebeaa.Sq Go.Proofs.YtkekcenlleebeaaW.PrintWords Go.Proofs.YtkekcenlleebeaaW.PrintLast Go.Proofs.YtkekcenlleebeaaW.PrintMore
attribute [local go_sem] max2_int min2_int max_two min_two max_three min_three max_four min_four   -- for this text's walks alone
set_option linter.unusedVariables false
set_option linter.unusedSimpArgs false

/-- A state of type 161 at block g of W; what its slices lead to came in by w0. -/
def IsS161 (w0 W : World) (g : Nat) (f0 : List Int) (f1 : Int) : Prop := ∃ A0 c0, W.heap[g]? = some (.cells #[.slice A0 f0.length c0, .int .i64 f1] 161 (0, 0)) ∧ w0.heap.size ≤ g ∧ Kd.C (Kd.int .u8) w0 A0 f0.length f0
theorem IsS161.grown {w0 W : World} {g : Nat} {f0 : List Int} {f1 : Int} {W1 : World} {row : Option Nat} (h : IsS161 w0 W g f0 f1) (hw : W.grownBy W1 row) (hne : some g ≠ row) : IsS161 w0 W1 g f0 f1 := by
 obtain ⟨A0, c0, hb, hg, hr0⟩ := h
 exact ⟨A0, c0, blk_grown hb hw hne, hg, hr0⟩
theorem IsS161.own_neN {w0 W : World} {g : Nat} {f0 : List Int} {f1 : Int} {α : Type} {d : Kd α} {e : Nat} {base : Nat} {ok : Nat → Prop} {v : Value} {xs : List α} (h : IsS161 w0 W g f0 f1) (ho : Kd.N d e W base ok v xs) (ht : e ≠ 161) : some g ≠ v.ownBlock := by
 obtain ⟨A0, c0, hb, hg, hr0⟩ := h
 exact Kd.N_ne ho hb ht
theorem IsS161.fresh {w0 W : World} {g : Nat} {f0 : List Int} {f1 : Int} (h : IsS161 w0 W g f0 f1) : ∀ k, W.heap.size ≤ k → k ≠ g := by
 obtain ⟨A0, c0, hb, hg, hr0⟩ := h
 exact Kd.freshB hb
theorem IsS161.kept {w0 W : World} {g : Nat} {f0 : List Int} {f1 : Int} {W1 : World} {S : Nat → Prop} (h : IsS161 w0 W g f0 f1) (hk : Kept W W1 S) (hne : ¬ S g) : IsS161 w0 W1 g f0 f1 := by
 obtain ⟨A0, c0, hb, hg, hr0⟩ := h
 exact ⟨A0, c0, blk_kept hb hk hne, hg, hr0⟩
theorem IsS161.below {w0 W : World} {g : Nat} {f0 : List Int} {f1 : Int} {W1 : World} (h : IsS161 w0 W g f0 f1) (hw : Below W.heap.size W W1) : IsS161 w0 W1 g f0 f1 := h.grown (grown_of_below hw none) (by simp)
theorem IsS161.alloc {w0 W : World} {g : Nat} {f0 : List Int} {f1 : Int} (h : IsS161 w0 W g f0 f1) (o : Obj) : IsS161 w0 (W.alloc o) g f0 f1 := h.below (below_alloc (Below.refl _ _) o)
theorem IsS161.drewN {w0 W : World} {g : Nat} {f0 : List Int} {f1 : Int} (h : IsS161 w0 W g f0 f1) (m : Nat) : IsS161 w0 (W.drewN m) g f0 f1 := h
theorem IsS161.drew {w0 W : World} {g : Nat} {f0 : List Int} {f1 : Int} (h : IsS161 w0 W g f0 f1) : IsS161 w0 W.drew g f0 f1 := h
theorem IsS161.at_ {w0 W : World} {g : Nat} {f0 : List Int} {f1 : Int} {w' : World} {m : Nat} (hq : W.drewN m = w') (h : IsS161 w0 W g f0 f1) : IsS161 w0 w' g f0 f1 := by subst hq; exact IsS161.drewN h m
theorem IsS161.apart {w0 W : World} {g : Nat} {f0 : List Int} {f1 : Int} {α : Type} {d : Kd α} {e : Nat} {base : Nat} {ok : Nat → Prop} {v : Value} {xs : List α} (h : IsS161 w0 W g f0 f1) (ho : d.R e W base ok v xs) (ht : ∀ q, q ∈ e :: d.E → q ≠ 161) : d.R e W base (fun k => ok k ∧ k ≠ g) v xs := by
 obtain ⟨A0, c0, hb, hg, hr0⟩ := h
 exact Kd.R_types ho hb ht
theorem IsS161.own_ne {w0 W : World} {g : Nat} {f0 : List Int} {f1 : Int} {α : Type} {d : Kd α} {e : Nat} {base : Nat} {ok : Nat → Prop} {v : Value} {xs : List α} (h : IsS161 w0 W g f0 f1) (ho : d.R e W base ok v xs) (ht : e ≠ 161) : some g ≠ v.ownBlock := by
 obtain ⟨A0, c0, hb, hg, hr0⟩ := h
 exact Kd.R_ne ho hb ht
theorem IsS161.apartQ {w0 W : World} {g : Nat} {f0 : List Int} {f1 : Int} {α : Type} {d : Kd α} {e : Nat} {base : Nat} {ok : Nat → Prop} {v : Value} {xs : List α} (h : IsS161 w0 W g f0 f1) (ho : d.Q e W base ok v xs) (ht : ∀ q, q ∈ e :: d.E → q ≠ 161) : d.Q e W base (fun k => ok k ∧ k ≠ g) v xs := by
 obtain ⟨A0, c0, hb, hg, hr0⟩ := h
 exact Kd.Q_types ho hb ht
theorem IsS161.own_neQ {w0 W : World} {g : Nat} {f0 : List Int} {f1 : Int} {α : Type} {d : Kd α} {e : Nat} {base : Nat} {ok : Nat → Prop} {v : Value} {xs : List α} (h : IsS161 w0 W g f0 f1) (ho : d.Q e W base ok v xs) (ht : e ≠ 161) : some g ≠ v.ownBlock := by
 obtain ⟨A0, c0, hb, hg, hr0⟩ := h
 exact Kd.Q_ne ho hb ht
theorem IsS161.apartS {w0 W : World} {g : Nat} {f0 : List Int} {f1 : Int} {α : Type} {d : Kd α} {e : Nat} {base : Nat} {ok : Nat → Prop} {v : Value} {xs : List α} (h : IsS161 w0 W g f0 f1) (ho : d.S e W base ok v xs) (ht : ∀ q, q ∈ e :: d.E → q ≠ 161) : d.S e W base (fun k => ok k ∧ k ≠ g) v xs := by
 obtain ⟨A0, c0, hb, hg, hr0⟩ := h
 exact Kd.S_types ho hb ht
theorem IsS161.own_neS {w0 W : World} {g : Nat} {f0 : List Int} {f1 : Int} {α : Type} {d : Kd α} {e : Nat} {base : Nat} {ok : Nat → Prop} {v : Value} {xs : List α} (h : IsS161 w0 W g f0 f1) (ho : d.S e W base ok v xs) (ht : e ≠ 161) : some g ≠ v.ownBlock := by
 obtain ⟨A0, c0, hb, hg, hr0⟩ := h
 exact Kd.S_ne ho hb ht
theorem IsS161.lt {w0 W : World} {g : Nat} {f0 : List Int} {f1 : Int} (h : IsS161 w0 W g f0 f1) : g < W.heap.size := by
 obtain ⟨A0, c0, hb, hg, hr0⟩ := h
 exact blk_lt hb
theorem IsS161.ge {w0 W : World} {g : Nat} {f0 : List Int} {f1 : Int} (h : IsS161 w0 W g f0 f1) : w0.heap.size ≤ g := by
 obtain ⟨A0, c0, hb, hg, hr0⟩ := h
 exact hg
theorem IsS161.ne_blk {w0 W : World} {g : Nat} {f0 : List Int} {f1 : Int} {a : Nat} {cs : Array Value} {t : TypeId} {fr : Nat × Nat} (h : IsS161 w0 W g f0 f1) (hb2 : W.heap[a]? = some (.cells cs t fr)) (ht : t ≠ 161) : g ≠ a := by
 obtain ⟨A0, c0, hb, hg, hr0⟩ := h
 rintro rfl
 rw [hb] at hb2
 injection hb2 with hb2
 injection hb2 with _ ht2
 exact ht ht2.symm
theorem IsS161.far {w0 W : World} {g : Nat} {f0 : List Int} {f1 : Int} {p : Addr} (h : IsS161 w0 W g f0 f1) (hne : g ≠ p.block) (u : Value) : IsS161 w0 (W.setCell p u) g f0 f1 := by
 obtain ⟨A0, c0, hb, hg, hr0⟩ := h
 exact ⟨A0, c0, blk_far hb hne u, hg, hr0⟩
theorem cellS161_0 {W : World} {g : Nat} {A0 : Option Addr} {c0 : Nat} {f0 : List Int} {f1 : Int} (h : W.heap[g]? = some (.cells #[.slice A0 f0.length c0, .int .i64 f1] 161 (0, 0))) : W.cell? ⟨g, 0, none⟩ = some (.slice A0 f0.length c0) := (blk_cell h 0).trans rfl
theorem cellS161_1 {W : World} {g : Nat} {A0 : Option Addr} {c0 : Nat} {f0 : List Int} {f1 : Int} (h : W.heap[g]? = some (.cells #[.slice A0 f0.length c0, .int .i64 f1] 161 (0, 0))) : W.cell? ⟨g, 1, none⟩ = some (.int .i64 f1) := (blk_cell h 1).trans rfl
theorem IsS161.set_1 {w0 W : World} {g : Nat} {f0 : List Int} {f1 : Int} (h : IsS161 w0 W g f0 f1) (x : Int) : IsS161 w0 (W.setCell ⟨g, 1, none⟩ (.int .i64 x)) g f0 x := by
 obtain ⟨A0, c0, hb, hg, hr0⟩ := h
 exact ⟨A0, c0, by simpa using blk_set hb 1 (.int .i64 x), hg, hr0⟩
theorem IsS161.new (w0 W : World) (A0 : Option Addr) (c0 : Nat) (f0 : List Int) (f1 : Int) (hB : Below w0.heap.size w0 W) (hr0 : Kd.C (Kd.int .u8) w0 A0 f0.length f0) : IsS161 w0 (W.alloc (.cells #[.slice A0 f0.length c0, .int .i64 f1] 161)) W.heap.size f0 f1 := ⟨A0, c0, by simpa using heap_alloc_new W _, hB.size, hr0⟩
theorem IsS161.mv {p q : Prop} (H : Aside0 p) (s : p → q := by
  intro h_; repeat (first | (with_reducible first | exact h_ | apply IsS161.alloc | apply IsS161.drewN | apply IsS161.drew | apply IsS161.set_1 | refine IsS161.far ?_ (Aside0.out (by assumption)) _) | exact h_)) : q := s H.out

/-! ### spec_l1Open: function 92 -/
set_option maxHeartbeats 8000000 in
set_option maxRecDepth 100000 in
theorem spec_l1Open.calls (A0 : Option Addr) (c0 : Nat) (l0 : List Int) (r1 : List Int) (r2 : Int) (w0 w : World) (hB : Below w0.heap.size w0 w) (hr0 : Kd.C (Kd.int .u8) w0 A0 l0.length l0) (hc0 : l0.length ≤ c0) (h : spec_l1Open.f l0 = some (r1, r2)) :
  Calls Try.prog 92 #[.slice A0 l0.length c0] w fun e w' => ∃ g_ : Nat, e = .returned (.pointer (some ⟨g_, 0, none⟩)) ∧ IsS161 w0 w' g_ r1 r2 ∧ Below w0.heap.size w0 w' ∧ Below w.heap.size w w' := by
 have hu161 := Try.underlying161
 have HR0 := Aside0.mk hr0
 have HC0 := Aside0.mk hc0
 clear hr0 hc0
 have HBW := Aside0.mk (Below.refl w.heap.size w)
 have HW0 := Aside0.mk hB.size
 have HB := Aside0.mk hB
 clear hB
 have H := h
 unfold spec_l1Open.f at H
 clear h
 replace H := sqi H
 rcases H with ⟨c2, H⟩ | ⟨c2, H⟩
 ·have c2b0 : decide (2000 < (l0.length : Int)) = false := decide_eq_false c2
  have c2b1 : decide (2000 < l0.length) = false := decide_eq_false (by omega)
  clear c2
  simp only [Option.some.injEq, Prod.mk.injEq] at H
  obtain ⟨rfl, rfl⟩ := H
  go_enter Try.func92, Try.ntmps92
  go_wp2_with (first | ((with_reducible refine gate_dst (N := 10) rfl ?_); refine sqx 10 #[.slice A0 l0.length c0, .int .i64 0] 161 ?_; intro gb298 hg w6 hbox hb; have n0_ := Aside0.mk (below_step HBW.out hb); have n1_ := sqs HB hb; have n2_ := Aside0.mk (hbox); have n3_ := Aside0.mk ((by rw [hg]; exact (below_size (sqB HBW)) : w.heap.size ≤ gb298)); have n4_ := Aside0.mk ((Nat.le_trans HW0.out (by rw [hg]; exact (below_size (sqB HBW)) : w.heap.size ≤ gb298) : w0.heap.size ≤ gb298)); clear HBW; clear HB; have HBW := n0_; have HB := n1_; have BK298 := n2_; have GW298 := n3_; have GE298 := n4_; clear n0_ n1_ n2_ n3_ n4_; clear hb hbox hg))
  go_ret
  exact ⟨_, rfl, (show IsS161 w0 _ gb298 l0 0 from ⟨_, _, by refine sqt ?_; exact BK298.out, GE298.out, HR0.out⟩), by repeat (first | (with_reducible first | exact HB.out | apply below_alloc | apply pw_below_drewN | apply below_drew1 | refine below_set ?_ GE298.out) | exact HB.out), by repeat (first | (with_reducible first | exact HBW.out | apply below_alloc | apply pw_below_drewN | apply below_drew1 | refine below_set ?_ GW298.out) | exact HBW.out)⟩
 have c2b0 : decide (2000 < (l0.length : Int)) = true := decide_eq_true c2
 have c2b1 : decide (2000 < l0.length) = true := decide_eq_true (by omega)
 clear c2
 replace H := sqi H
 rcases H with ⟨c3, H⟩ | ⟨c3, H⟩
 ·exact absurd H (by simp)
 have c3b0 := eq_true c3
 have c3b1 := decide_eq_true c3
 clear c3
 simp only [Option.some.injEq, Prod.mk.injEq] at H
 obtain ⟨rfl, rfl⟩ := H
 obtain ⟨i04, hi04, _, hsz4, _⟩ := info_parts info5
 obtain ⟨hcut4, hA4, hC4⟩ := print_take_of (P := Try.prog) (Value.int .u8) 0 22 5 .i64 Try.underlying22 hi04 hsz4 A0 c0 l0 2000 (by omega) sqd HC0.out
 have HR296 := Aside0.mk (Kd.C_of_reads (h1 := fun _ => rfl) (hA4 _ (Kd.reads_of_C HR0.out)))
 have HC296 := Aside0.mk hC4
 clear hA4 hC4 hi04 hsz4
 go_enter Try.func92, Try.ntmps92
 go_wp2_with (first | ((with_reducible refine gate_dst (N := 10) rfl ?_); refine sqx 10 #[.slice A0 (l0.take 2000).length c0, .int .i64 0] 161 ?_; intro gb297 hg w5 hbox hb; have n0_ := Aside0.mk (below_step HBW.out hb); have n1_ := sqs HB hb; have n2_ := Aside0.mk (hbox); have n3_ := Aside0.mk ((by rw [hg]; exact (below_size (sqB HBW)) : w.heap.size ≤ gb297)); have n4_ := Aside0.mk ((Nat.le_trans HW0.out (by rw [hg]; exact (below_size (sqB HBW)) : w.heap.size ≤ gb297) : w0.heap.size ≤ gb297)); clear HBW; clear HB; have HBW := n0_; have HB := n1_; have BK297 := n2_; have GW297 := n3_; have GE297 := n4_; clear n0_ n1_ n2_ n3_ n4_; clear hb hbox hg))
 go_ret
 exact ⟨_, rfl, (show IsS161 w0 _ gb297 (l0.take 2000) 0 from ⟨_, _, by refine sqt ?_; exact BK297.out, GE297.out, HR296.out⟩), by repeat (first | (with_reducible first | exact HB.out | apply below_alloc | apply pw_below_drewN | apply below_drew1 | refine below_set ?_ GE297.out) | exact HB.out), by repeat (first | (with_reducible first | exact HBW.out | apply below_alloc | apply pw_below_drewN | apply below_drew1 | refine below_set ?_ GW297.out) | exact HBW.out)⟩

/-! ### spec_l1Rd_pick: function 109 -/
set_option maxHeartbeats 8000000 in
set_option maxRecDepth 100000 in
theorem spec_l1Rd_pick.calls (k : Nat) (g : Nat) (s0_0 : List Int) (s0_1 : Int) (a1 : Int) (r1 : Int) (r2 : Int) (w0 w : World) (hI : IsS161 w0 w g s0_0 s0_1) (hB : Below w0.heap.size w0 w) (h : spec_l1Rd_pick.f k s0_0 s0_1 a1 = some (r1, r2)) :
  Calls Try.prog 109 #[.pointer (some ⟨g, 0, none⟩), .int .i64 a1] w fun e w' => e = .returned (.int .i64 r1) ∧ IsS161 w0 w' g s0_0 r2 ∧ Below w0.heap.size w0 w' ∧ KeepBut w w' g none := by
 have HI0 := Aside0.mk hI
 have HK := Aside0.mk (KeepBut.refl w g none)
 have HL := Aside0.mk hB.size
 clear hI
 have HW0 := Aside0.mk hB.size
 have HB := Aside0.mk hB
 clear hB
 have H := h
 unfold spec_l1Rd_pick.f at H
 clear h
 have HC3 := Aside0.mk H
 clear H
 obtain ⟨ASz4_0, cSz4_0, HGz4, hgz4, HSz4_0⟩ := HI0.out
 have hcz4_0 := cellS161_0 HGz4
 have hcz4_1 := cellS161_1 HGz4
 have hfz4_1 := blk_frozen HGz4 1
 clear HGz4 hgz4
 go_enter Try.func109, Try.ntmps109
 go_upto_region 2 with (fail)
 repeat (go_quiet (fail); go_upto_region 2 with (fail))
 go_cut [24] (fun v24 wc => ∃ (kq : Nat) (x24_2 : Bool), v24 = .bool x24_2 ∧ Aside0 (spec_l1Rd_pick.j0 kq a1 x24_2 s0_0 (wrap64 (s0_1 + 1)) = some (r1, r2)) ∧ Aside0 (kq ≤ k) ∧ Aside0 (IsS161 w0 wc g s0_0 (wrap64 (s0_1 + 1))) ∧ Aside0 (KeepBut w wc g none) ∧ Aside0 (Below w0.heap.size w0 wc))
 case first =>
  have H := HC3.out
  clear HC3
  replace H := sqj H
  rcases H with ⟨c5, H⟩ | ⟨c5, H⟩
  ·have c5b0 := decide_eq_true c5
   clear c5
   (first | rw [c5b0] | (simp only [i64_w, i32_w]; rw [c5b0]) | skip)
   have H' := Aside0.mk H
   clear H
   go_wp2
   repeat (go_quiet (fail); try go_wp2)
   go_meet
   case rel => exact ⟨_, (true), (by first | rfl | (simp; done) | (simp [*]; done)), H', ⟨by first | omega | exact Nat.le_refl _⟩, ⟨IsS161.mv HI0⟩, ⟨sqK HK⟩, ⟨sqB2 HB (IsS161.ge HI0.out)⟩⟩
  have c5b0 := decide_eq_false c5
  clear c5
  (first | rw [c5b0] | (simp only [i64_w, i32_w]; rw [c5b0]) | skip)
  have H' := Aside0.mk H
  clear H
  obtain ⟨ASz6_0, cSz6_0, HGz6, hgz6, HSz6_0⟩ := HI0.out
  have hcz6_0 := cellS161_0 HGz6
  have hcz6_1 := cellS161_1 HGz6
  have hfz6_1 := blk_frozen HGz6 1
  clear HGz6 hgz6
  go_wp2
  repeat (go_quiet (fail); try go_wp2)
  go_meet
  case rel => exact ⟨_, (((s0_0.length : Int) == 0)), (by first | rfl | (simp; done) | (simp [*]; done)), H', ⟨by first | omega | exact Nat.le_refl _⟩, ⟨IsS161.mv HI0⟩, ⟨sqK HK⟩, ⟨sqB2 HB (IsS161.ge HI0.out)⟩⟩
 case rest =>
  clear HC3
  obtain ⟨kq, x24_2, rfl, HA, HJ2, HI0, HK, HB⟩ := hcut
  cases kq with
  | zero => exact absurd HA.out (by simp [spec_l1Rd_pick.j0])
  | succ kj2 =>
   have H := HA.out
   clear HA
   simp only [spec_l1Rd_pick.j0] at H
   by_cases c7 : x24_2 = true
   ·subst c7
    have H1 : (some (0, (wrap64 (s0_1 + 1)))) = some (r1, r2) := by rw [if_pos rfl] at H; exact H
    clear H
    have H := H1
    clear H1
    simp only [Option.some.injEq, Prod.mk.injEq] at H
    obtain ⟨rfl, rfl⟩ := H
    go_wp2
    repeat (go_quiet (fail); try go_wp2)
    go_ret
    exact ⟨by first | rfl | (simp [errW_none, errW_some] <;> rfl) | (simp [*, errW_none, errW_some] <;> rfl), by repeat (first | (with_reducible first | exact HI0.out | apply IsS161.alloc | apply IsS161.drewN | apply IsS161.drew | apply IsS161.set_1) | exact HI0.out), by repeat (first | (with_reducible first | exact HB.out | apply below_alloc | apply pw_below_drewN | apply below_drew1 | refine below_set ?_ (IsS161.ge HI0.out)) | exact HB.out), sqK HK⟩
   replace c7 := Bool.eq_false_iff.mpr c7
   subst c7
   have H1 : (if (wrap64 ((wrap64 (s0_1 + 1)) - 1)) < (s0_0.length : Int) then (if 0 ≤ (wrap64 ((wrap64 (s0_1 + 1)) - 1)) then (if a1 = 0 then (none) else (some (Int.tmod (wrap64 (rd s0_0 (wrap64 ((wrap64 (s0_1 + 1)) - 1)))) a1, (wrap64 (s0_1 + 1))))) else (none)) else (if (s0_0.length : Int) = 0 then (none) else (if 0 ≤ (Int.tmod (wrap64 ((wrap64 (s0_1 + 1)) - 1)) (s0_0.length : Int)) then (if (Int.tmod (wrap64 ((wrap64 (s0_1 + 1)) - 1)) (s0_0.length : Int)) < (s0_0.length : Int) then (if 0 ≤ (Int.tmod (wrap64 ((wrap64 ((wrap64 ((wrap64 (s0_1 + 1)) - 1)) * 7)) + 3)) (s0_0.length : Int)) then (if (Int.tmod (wrap64 ((wrap64 ((wrap64 ((wrap64 (s0_1 + 1)) - 1)) * 7)) + 3)) (s0_0.length : Int)) < (s0_0.length : Int) then (if a1 = 0 then (none) else (some (Int.tmod (Go.bits .xor .i64 (wrap64 ((wrap64 ((wrap64 ((wrap64 ((wrap64 (rd s0_0 (Int.tmod (wrap64 ((wrap64 (s0_1 + 1)) - 1)) (s0_0.length : Int)))) * 131)) + (wrap64 ((wrap64 (rd s0_0 (Int.tmod (wrap64 ((wrap64 ((wrap64 ((wrap64 (s0_1 + 1)) - 1)) * 7)) + 3)) (s0_0.length : Int)))) * 1117)))) + (wrap64 ((wrap64 ((wrap64 (s0_1 + 1)) - 1)) * 29)))) + (wrap64 ((wrap64 (Int.tdiv (wrap64 ((wrap64 (s0_1 + 1)) - 1)) (s0_0.length : Int))) * 53)))) (wrap64 (Int.tdiv (wrap64 ((wrap64 ((wrap64 ((wrap64 ((wrap64 (rd s0_0 (Int.tmod (wrap64 ((wrap64 (s0_1 + 1)) - 1)) (s0_0.length : Int)))) * 131)) + (wrap64 ((wrap64 (rd s0_0 (Int.tmod (wrap64 ((wrap64 ((wrap64 ((wrap64 (s0_1 + 1)) - 1)) * 7)) + 3)) (s0_0.length : Int)))) * 1117)))) + (wrap64 ((wrap64 ((wrap64 (s0_1 + 1)) - 1)) * 29)))) + (wrap64 ((wrap64 (Int.tdiv (wrap64 ((wrap64 (s0_1 + 1)) - 1)) (s0_0.length : Int))) * 53)))) 64))) a1, (wrap64 (s0_1 + 1))))) else (none)) else (none)) else (none)) else (none)))) = some (r1, r2) := by rw [if_neg (show ¬ (false = true) by decide)] at H; exact H
   clear H
   have H := H1
   clear H1
   replace H := sqj H
   rcases H with ⟨c8, H⟩ | ⟨c8, H⟩
   ·have c8b0 := decide_eq_true c8
    clear c8
    obtain ⟨ji9, hji9⟩ : ∃ j_ : Int, (wrap64 ((wrap64 (s0_1 + 1)) - 1)) = j_ := ⟨_, rfl⟩
    replace H : (if 0 ≤ (ji9) then (if a1 = 0 then (none) else (some (Int.tmod (wrap64 (rd s0_0 (ji9))) a1, (wrap64 (s0_1 + 1))))) else (none)) = some (r1, r2) := by first | (rw [hji9] at H; exact H) | (simp only [hji9] at H ⊢; exact H)
    (try rw [hji9] at c8b0)
    have hji9w : (IntKind.i64.wrap ((wrap64 (s0_1 + 1)) - 1)) = ji9 := (i64_w _).trans hji9
    replace H := sqi H
    rcases H with ⟨c10, H⟩ | ⟨c10, H⟩
    ·exact absurd H (by simp)
    have c10b0 := decide_eq_true c10
    clear c10
    replace H := sqj H
    rcases H with ⟨c11, H⟩ | ⟨c11, H⟩
    ·exact absurd H (by simp)
    have c11b0 : (a1 == 0) = false := beq_eq_false_iff_ne.mpr c11
    have c11b1 : (a1 != 0) = true := bne_iff_ne.mpr c11
    simp only [Option.some.injEq, Prod.mk.injEq] at H
    obtain ⟨rfl, rfl⟩ := H
    obtain ⟨ASz12_0, cSz12_0, HGz12, hgz12, HSz12_0⟩ := HI0.out
    have hcz12_0 := cellS161_0 HGz12
    have hcz12_1 := cellS161_1 HGz12
    have hfz12_1 := blk_frozen HGz12 1
    clear HGz12 hgz12
    have p299 : 0 ≤ ((ji9) : Int) := sqd
    have q299 : (ji9) < (s0_0.length : Int) := sqd
    obtain ⟨ad299, e299, hx299_0⟩ := Kd.at_int HSz12_0 (ji9) p299 q299
    cases e299
    replace hx299_0 := pw_cell_below HB.out hx299_0
    replace p299 := eq_true p299
    replace q299 := eq_true q299
    go_wp2
    repeat (go_quiet (fail); try go_wp2)
    go_ret
    exact ⟨by first | rfl | (simp [errW_none, errW_some] <;> rfl) | (simp only [← hji9]; first | rfl | (simp [errW_none, errW_some] <;> rfl)) | (simp [*, errW_none, errW_some] <;> rfl), by repeat (first | (with_reducible first | exact HI0.out | apply IsS161.alloc | apply IsS161.drewN | apply IsS161.drew | apply IsS161.set_1) | exact HI0.out), by repeat (first | (with_reducible first | exact HB.out | apply below_alloc | apply pw_below_drewN | apply below_drew1 | refine below_set ?_ (IsS161.ge HI0.out)) | exact HB.out), sqK HK⟩
   have c8b0 := decide_eq_false c8
   clear c8
   replace H := sqj H
   rcases H with ⟨c13, H⟩ | ⟨c13, H⟩
   ·exact absurd H (by simp)
   have c13b0 : ((s0_0.length : Int) == 0) = false := beq_eq_false_iff_ne.mpr c13
   have c13b1 : ((s0_0.length : Int) != 0) = true := bne_iff_ne.mpr c13
   have c13b2 : ¬ (s0_0 = []) := fun h_ => c13 (by rw [h_]; rfl)
   obtain ⟨ji14, hji14⟩ : ∃ j_ : Int, (Int.tmod (wrap64 ((wrap64 (s0_1 + 1)) - 1)) (s0_0.length : Int)) = j_ := ⟨_, rfl⟩
   replace H : (if 0 ≤ (ji14) then (if (ji14) < (s0_0.length : Int) then (if 0 ≤ (Int.tmod (wrap64 ((wrap64 ((wrap64 ((wrap64 (s0_1 + 1)) - 1)) * 7)) + 3)) (s0_0.length : Int)) then (if (Int.tmod (wrap64 ((wrap64 ((wrap64 ((wrap64 (s0_1 + 1)) - 1)) * 7)) + 3)) (s0_0.length : Int)) < (s0_0.length : Int) then (if a1 = 0 then (none) else (some (Int.tmod (Go.bits .xor .i64 (wrap64 ((wrap64 ((wrap64 ((wrap64 ((wrap64 (rd s0_0 (ji14))) * 131)) + (wrap64 ((wrap64 (rd s0_0 (Int.tmod (wrap64 ((wrap64 ((wrap64 ((wrap64 (s0_1 + 1)) - 1)) * 7)) + 3)) (s0_0.length : Int)))) * 1117)))) + (wrap64 ((wrap64 ((wrap64 (s0_1 + 1)) - 1)) * 29)))) + (wrap64 ((wrap64 (Int.tdiv (wrap64 ((wrap64 (s0_1 + 1)) - 1)) (s0_0.length : Int))) * 53)))) (wrap64 (Int.tdiv (wrap64 ((wrap64 ((wrap64 ((wrap64 ((wrap64 (rd s0_0 (ji14))) * 131)) + (wrap64 ((wrap64 (rd s0_0 (Int.tmod (wrap64 ((wrap64 ((wrap64 ((wrap64 (s0_1 + 1)) - 1)) * 7)) + 3)) (s0_0.length : Int)))) * 1117)))) + (wrap64 ((wrap64 ((wrap64 (s0_1 + 1)) - 1)) * 29)))) + (wrap64 ((wrap64 (Int.tdiv (wrap64 ((wrap64 (s0_1 + 1)) - 1)) (s0_0.length : Int))) * 53)))) 64))) a1, (wrap64 (s0_1 + 1))))) else (none)) else (none)) else (none)) else (none)) = some (r1, r2) := by first | (rw [hji14] at H; exact H) | (simp only [hji14] at H ⊢; exact H)
   replace H := sqi H
   rcases H with ⟨c15, H⟩ | ⟨c15, H⟩
   ·exact absurd H (by simp)
   have c15b0 := decide_eq_true c15
   clear c15
   replace H := sqi H
   rcases H with ⟨c16, H⟩ | ⟨c16, H⟩
   ·exact absurd H (by simp)
   have c16b0 := decide_eq_true c16
   clear c16
   obtain ⟨ji17, hji17⟩ : ∃ j_ : Int, (Int.tmod (wrap64 ((wrap64 ((wrap64 ((wrap64 (s0_1 + 1)) - 1)) * 7)) + 3)) (s0_0.length : Int)) = j_ := ⟨_, rfl⟩
   replace H : (if 0 ≤ (ji17) then (if (ji17) < (s0_0.length : Int) then (if a1 = 0 then (none) else (some (Int.tmod (Go.bits .xor .i64 (wrap64 ((wrap64 ((wrap64 ((wrap64 ((wrap64 (rd s0_0 (ji14))) * 131)) + (wrap64 ((wrap64 (rd s0_0 (ji17))) * 1117)))) + (wrap64 ((wrap64 ((wrap64 (s0_1 + 1)) - 1)) * 29)))) + (wrap64 ((wrap64 (Int.tdiv (wrap64 ((wrap64 (s0_1 + 1)) - 1)) (s0_0.length : Int))) * 53)))) (wrap64 (Int.tdiv (wrap64 ((wrap64 ((wrap64 ((wrap64 ((wrap64 (rd s0_0 (ji14))) * 131)) + (wrap64 ((wrap64 (rd s0_0 (ji17))) * 1117)))) + (wrap64 ((wrap64 ((wrap64 (s0_1 + 1)) - 1)) * 29)))) + (wrap64 ((wrap64 (Int.tdiv (wrap64 ((wrap64 (s0_1 + 1)) - 1)) (s0_0.length : Int))) * 53)))) 64))) a1, (wrap64 (s0_1 + 1))))) else (none)) else (none)) = some (r1, r2) := by first | (rw [hji17] at H; exact H) | (simp only [hji17] at H ⊢; exact H)
   replace H := sqi H
   rcases H with ⟨c18, H⟩ | ⟨c18, H⟩
   ·exact absurd H (by simp)
   have c18b0 := decide_eq_true c18
   clear c18
   replace H := sqi H
   rcases H with ⟨c19, H⟩ | ⟨c19, H⟩
   ·exact absurd H (by simp)
   have c19b0 := decide_eq_true c19
   clear c19
   replace H := sqj H
   rcases H with ⟨c20, H⟩ | ⟨c20, H⟩
   ·exact absurd H (by simp)
   have c20b0 : (a1 == 0) = false := beq_eq_false_iff_ne.mpr c20
   have c20b1 : (a1 != 0) = true := bne_iff_ne.mpr c20
   simp only [Option.some.injEq, Prod.mk.injEq] at H
   obtain ⟨rfl, rfl⟩ := H
   obtain ⟨ASz21_0, cSz21_0, HGz21, hgz21, HSz21_0⟩ := HI0.out
   have hcz21_0 := cellS161_0 HGz21
   have hcz21_1 := cellS161_1 HGz21
   have hfz21_1 := blk_frozen HGz21 1
   clear HGz21 hgz21
   have p300 : 0 ≤ ((ji14) : Int) := sqd
   have q300 : (ji14) < (s0_0.length : Int) := sqd
   obtain ⟨ad300, e300, hx300_0⟩ := Kd.at_int HSz21_0 (ji14) p300 q300
   cases e300
   replace hx300_0 := pw_cell_below HB.out hx300_0
   replace p300 := eq_true p300
   replace q300 := eq_true q300
   have p301 : 0 ≤ ((ji17) : Int) := sqd
   have q301 : (ji17) < (s0_0.length : Int) := sqd
   obtain ⟨ad301, e301, hx301_0⟩ := Kd.at_int HSz21_0 (ji17) p301 q301
   obtain rfl : ad300 = ad301 := (by injection e301)
   replace hx301_0 := pw_cell_below HB.out hx301_0
   replace p301 := eq_true p301
   replace q301 := eq_true q301
   go_wp2
   repeat (go_quiet (fail); try go_wp2)
   go_ret
   exact ⟨by first | rfl | (simp [errW_none, errW_some] <;> rfl) | (simp only [← hji14, ← hji17]; first | rfl | (simp [errW_none, errW_some] <;> rfl)) | (simp [*, errW_none, errW_some] <;> rfl), by repeat (first | (with_reducible first | exact HI0.out | apply IsS161.alloc | apply IsS161.drewN | apply IsS161.drew | apply IsS161.set_1) | exact HI0.out), by repeat (first | (with_reducible first | exact HB.out | apply below_alloc | apply pw_below_drewN | apply below_drew1 | refine below_set ?_ (IsS161.ge HI0.out)) | exact HB.out), sqK HK⟩

/-! ### spec_l8Max: function 122 -/
set_option maxHeartbeats 8000000 in
set_option maxRecDepth 100000 in
theorem spec_l8Max.calls (a0 : Int) (a1 : Int) (r : Int) (w : World) (h : spec_l8Max.f a0 a1 = some r) :
  Calls Try.prog 122 #[.int .i64 a0, .int .i64 a1] w fun e w' => e = .returned (.int .i64 r) ∧ Drawn0 w w' := by
 have H := h
 unfold spec_l8Max.f at H
 clear h
 replace H := sqj H
 rcases H with ⟨c3, H⟩ | ⟨c3, H⟩
 ·have c3b0 : decide (a1 < a0) = true := decide_eq_true c3
  clear c3
  obtain rfl := Option.some.inj H
  go_enter Try.func122, Try.ntmps122
  go_wp2
  go_ret
  exact ⟨by first | rfl | (simp; done) | (simp [*]; done), by repeat (first | exact Drawn0.refl _ | apply Drawn0.step)⟩
 have c3b0 : decide (a1 < a0) = false := decide_eq_false c3
 clear c3
 obtain rfl := Option.some.inj H
 go_enter Try.func122, Try.ntmps122
 go_wp2
 go_ret
 exact ⟨by first | rfl | (simp; done) | (simp [*]; done), by repeat (first | exact Drawn0.refl _ | apply Drawn0.step)⟩

/-! ### spec_l8Min: function 134 -/
set_option maxHeartbeats 8000000 in
set_option maxRecDepth 100000 in
theorem spec_l8Min.calls (a0 : Int) (a1 : Int) (r : Int) (w : World) (h : spec_l8Min.f a0 a1 = some r) :
  Calls Try.prog 134 #[.int .i64 a0, .int .i64 a1] w fun e w' => e = .returned (.int .i64 r) ∧ Drawn0 w w' := by
 have H := h
 unfold spec_l8Min.f at H
 clear h
 replace H := sqj H
 rcases H with ⟨c3, H⟩ | ⟨c3, H⟩
 ·have c3b0 := decide_eq_true c3
  clear c3
  obtain rfl := Option.some.inj H
  go_enter Try.func134, Try.ntmps134
  go_wp2
  go_ret
  exact ⟨by first | rfl | (simp; done) | (simp [*]; done), by repeat (first | exact Drawn0.refl _ | apply Drawn0.step)⟩
 have c3b0 := decide_eq_false c3
 clear c3
 obtain rfl := Option.some.inj H
 go_enter Try.func134, Try.ntmps134
 go_wp2
 go_ret
 exact ⟨by first | rfl | (simp; done) | (simp [*]; done), by repeat (first | exact Drawn0.refl _ | apply Drawn0.step)⟩

/-! ### spec_l8Cut: function 133 -/
set_option maxHeartbeats 8000000 in
set_option maxRecDepth 100000 in
theorem spec_l8Cut.calls (a0 : Int) (a1 : Int) (r1 : Int) (r2 : Int) (w : World) (h : spec_l8Cut.f a0 a1 = some (r1, r2)) :
  Calls Try.prog 133 #[.int .i64 a0, .int .i64 a1] w fun e w' => e = .returned (.agg #[.int .i64 r1, .int .i64 r2]) ∧ Below w.heap.size w w' := by
 have hu24 := Try.underlying24
 have HB := Aside0.mk (Below.refl w.heap.size w)
 have H := h
 unfold spec_l8Cut.f at H
 clear h
 replace H := sqbi H
 obtain ⟨t303, A3, H⟩ := H
 try dsimp only at H
 replace H := sqbi H
 obtain ⟨t304, A4, H⟩ := H
 try dsimp only at H
 replace H := sqi H
 rcases H with ⟨c5, H⟩ | ⟨c5, H⟩
 ·have c5b0 : decide (t304 < t303) = false := decide_eq_false c5
  clear c5
  simp only [Option.some.injEq, Prod.mk.injEq] at H
  obtain ⟨rfl, rfl⟩ := H
  go_enter Try.func133, Try.ntmps133
  go_wp2_with (first | ((with_reducible refine gate_dst (N := 4) rfl ?_); refine sqx 4 #[.int .i64 0, .int .i64 0] 24 ?_; intro gb302 hg w10 hbox hb; have BK302 := Aside0.mk hbox; have GW302 := sqg HB hg; replace HB := sqs HB hb; clear hb hbox hg) | ((with_reducible refine gate_callee (f := 122) rfl ?_); refine sqL (some 8) Try.func122 #[.int .i64 a0, .int .i64 (-2147483648)] ?_; (with_reducible refine (spec_l8Max.calls a0 (-2147483648) t303 _ A3.out).mono ?_); rintro e w' ⟨rfl, ⟨nd, rfl⟩⟩; refine ⟨_, rfl, ?_⟩; (try (rw [drewN_self w10]; generalize hq_ : World.drewN w10 _ = w10; replace BK302 := sqq BK302 hq_; replace HB := sqr HB hq_; clear hq_; obtain ⟨hqz3_0, hqz3_1, hqf3_0, hqf3_1⟩ := sqc2 BK302))) | ((with_reducible refine gate_callee (f := 134) rfl ?_); refine sqL (some 10) Try.func134 #[.int .i64 a1, .int .i64 2147483647] ?_; (with_reducible refine (spec_l8Min.calls a1 2147483647 t304 _ A4.out).mono ?_); rintro e w' ⟨rfl, ⟨nd, rfl⟩⟩; refine ⟨_, rfl, ?_⟩; (try (rw [drewN_self w10]; generalize hq_ : World.drewN w10 _ = w10; replace BK302 := sqq BK302 hq_; replace HB := sqr HB hq_; clear hq_; obtain ⟨hqz4_0, hqz4_1, hqf4_0, hqf4_1⟩ := sqc2 BK302)); obtain ⟨_, _, _, _⟩ := sqc2 BK302))
  refine bodyPost_ret (results_cell_row rfl _ _ gb302 24 #[.int .i64 t303, .int .i64 t304] (0, 0) _ rfl (sqP BK302) Try.underlying24 rfl (by kernel_rfl)) rfl ?_
  exact sqe HB
 have c5b0 : decide (t304 < t303) = true := decide_eq_true c5
 clear c5
 replace H := sqbi H
 obtain ⟨⟨t305, t306⟩, A6, H⟩ := H
 try dsimp only at H
 simp only [Option.some.injEq, Prod.mk.injEq] at H
 obtain ⟨rfl, rfl⟩ := H
 go_enter Try.func133, Try.ntmps133
 go_wp2_with (first | ((with_reducible refine gate_dst (N := 4) rfl ?_); refine sqx 4 #[.int .i64 0, .int .i64 0] 24 ?_; intro gb302 hg w7 hbox hb; have BK302 := Aside0.mk hbox; have GW302 := sqg HB hg; replace HB := sqs HB hb; clear hb hbox hg) | ((with_reducible refine gate_callee (f := 122) rfl ?_); refine sqL (some 8) Try.func122 #[.int .i64 a0, .int .i64 (-2147483648)] ?_; (with_reducible refine (spec_l8Max.calls a0 (-2147483648) t303 _ A3.out).mono ?_); rintro e w' ⟨rfl, ⟨nd, rfl⟩⟩; refine ⟨_, rfl, ?_⟩; (try (rw [drewN_self w7]; generalize hq_ : World.drewN w7 _ = w7; replace BK302 := sqq BK302 hq_; replace HB := sqr HB hq_; clear hq_; obtain ⟨hqz1_0, hqz1_1, hqf1_0, hqf1_1⟩ := sqc2 BK302))) | ((with_reducible refine gate_callee (f := 134) rfl ?_); refine sqL (some 10) Try.func134 #[.int .i64 a1, .int .i64 2147483647] ?_; (with_reducible refine (spec_l8Min.calls a1 2147483647 t304 _ A4.out).mono ?_); rintro e w' ⟨rfl, ⟨nd, rfl⟩⟩; refine ⟨_, rfl, ?_⟩; (try (rw [drewN_self w7]; generalize hq_ : World.drewN w7 _ = w7; replace BK302 := sqq BK302 hq_; replace HB := sqr HB hq_; clear hq_; obtain ⟨hqz2_0, hqz2_1, hqf2_0, hqf2_1⟩ := sqc2 BK302))) | ((with_reducible refine gate_callee (f := 99) rfl ?_); refine sqL (some 14) Try.func99 #[] ?_; (with_reducible refine (spec_l8None.calls  t305 t306 _ A6.out).mono ?_); rintro e w8 ⟨rfl, hb⟩; refine ⟨_, rfl, ?_⟩; replace BK302 := sqb BK302 hb; replace HB := sqs HB hb; (try clear hb); obtain ⟨_, _, _, _⟩ := sqc2 BK302))
 refine bodyPost_ret (results_cell_row rfl _ _ gb302 24 #[.int .i64 t305, .int .i64 t306] (0, 0) _ rfl (sqP BK302) Try.underlying24 rfl (by kernel_rfl)) rfl ?_
 exact sqe HB

/-! ### spec_l9All: function 153 -/
set_option maxHeartbeats 8000000 in
set_option maxRecDepth 100000 in
theorem spec_l9All.calls  (r1 : Int) (r2 : Int) (w : World) (h : spec_l9All.f  = some (r1, r2)) :
  Calls Try.prog 153 #[] w fun e w' => e = .returned (.agg #[.int .i64 r1, .int .i64 r2]) ∧ Below w.heap.size w w' := by
 have hu26 := Try.underlying26
 have HB := Aside0.mk (Below.refl w.heap.size w)
 have H := h
 unfold spec_l9All.f at H
 clear h
 simp only [Option.some.injEq, Prod.mk.injEq] at H
 obtain ⟨rfl, rfl⟩ := H
 go_enter Try.func153, Try.ntmps153
 go_wp2_with (first | ((with_reducible refine gate_dst (N := 0) rfl ?_); refine sqx 0 #[.int .i64 0, .int .i64 0] 26 ?_; intro gb307 hg w1 hbox hb; have BK307 := Aside0.mk hbox; have GW307 := sqg HB hg; replace HB := sqs HB hb; clear hb hbox hg; obtain ⟨_, _, _, _⟩ := sqc2 BK307))
 refine bodyPost_ret (results_cell_row rfl _ _ gb307 26 #[.int .i64 1, .int .i64 0] (0, 0) _ rfl (sqP BK307) Try.underlying26 rfl (by kernel_rfl)) rfl ?_
 exact sqe HB

/-! ### spec_NumWrap: function 54 -/
set_option maxHeartbeats 8000000 in
set_option maxRecDepth 100000 in
theorem spec_NumWrap.calls (a0 : Int) (r : Int) (w : World) (h : spec_NumWrap.f a0 = some r) :
  Calls Try.prog 54 #[.int .i64 a0] w fun e w' => e = .returned (.int .i64 r) ∧ Drawn0 w w' := by
 have H := h
 unfold spec_NumWrap.f at H
 clear h
 replace H := sqbi H
 obtain ⟨t308, A2, H⟩ := H
 try dsimp only at H
 replace H := sqj H
 rcases H with ⟨c3, H⟩ | ⟨c3, H⟩
 ·have c3b0 : decide (2147483647 < t308) = true := decide_eq_true c3
  clear c3
  obtain rfl := Option.some.inj H
  go_enter Try.func54, Try.ntmps54
  go_wp2_with (first | ((with_reducible refine gate_callee (f := 102) rfl ?_); refine sqL (some 5) Try.func102 #[.int .i64 a0, .int .i64 4294967296] ?_; (with_reducible refine (spec_l1Mod.calls a0 4294967296 t308 _ A2.out).mono ?_); rintro e w' ⟨rfl, ⟨nd, rfl⟩⟩; refine ⟨_, rfl, ?_⟩))
  go_ret
  exact ⟨by first | rfl | (simp; done) | (simp [*]; done), by repeat (first | exact Drawn0.refl _ | apply Drawn0.step)⟩
 have c3b0 : decide (2147483647 < t308) = false := decide_eq_false c3
 clear c3
 obtain rfl := Option.some.inj H
 go_enter Try.func54, Try.ntmps54
 go_wp2_with (first | ((with_reducible refine gate_callee (f := 102) rfl ?_); refine sqL (some 5) Try.func102 #[.int .i64 a0, .int .i64 4294967296] ?_; (with_reducible refine (spec_l1Mod.calls a0 4294967296 t308 _ A2.out).mono ?_); rintro e w' ⟨rfl, ⟨nd, rfl⟩⟩; refine ⟨_, rfl, ?_⟩))
 go_ret
 exact ⟨by first | rfl | (simp; done) | (simp [*]; done), by repeat (first | exact Drawn0.refl _ | apply Drawn0.step)⟩

/-! ### spec_l1Power: function 157 -/
set_option maxHeartbeats 8000000 in
set_option maxRecDepth 100000 in
theorem spec_l1Power.calls (k : Nat) (a0 : Int) (r : Int) (w : World) (h : spec_l1Power.f k a0 = some r) :
  Calls Try.prog 157 #[.int .i64 a0] w fun e w' => e = .returned (.int .i64 r) ∧ Drawn0 w w' := by
 have H := h
 unfold spec_l1Power.f at H
 clear h
 have H' := Aside0.mk H
 clear H
 go_enter Try.func157, Try.ntmps157
 go_wp2
 go_loopg [3, 4] k (fun kq v3 v4 w' => ∃ (x3_1 : Int) (x4_1 : Int), v3 = .int .i64 x3_1 ∧ v4 = .int .i64 x4_1 ∧ Aside0 (spec_l1Power.l0 kq a0 x3_1 x4_1 = some r) ∧ Aside0 (kq ≤ k) ∧ Drawn0 w w')
 case atStart => exact ⟨(1), (0), (by first | rfl | (simp; done) | (simp [*]; done)), (by first | rfl | (simp; done) | (simp [*]; done)), H', ⟨Nat.le_refl _⟩, by repeat (first | exact Drawn0.refl _ | apply Drawn0.step)⟩
 case round =>
  clear H'
  obtain ⟨x3_1, x4_1, rfl, rfl, HA, HK1, ⟨m1, rfl⟩⟩ := hrel
  cases gk with
  | zero => exact absurd HA.out (by simp [spec_l1Power.l0])
  | succ k1 =>
   have H := HA.out
   clear HA
   simp only [spec_l1Power.l0] at H
   replace H := sqi H
   rcases H with ⟨c2, H⟩ | ⟨c2, H⟩
   ·have c2b0 := decide_eq_false c2
    clear c2
    obtain rfl := Option.some.inj H
    go_wp2
    go_ret
    exact ⟨by first | rfl | (simp; done) | (simp [*]; done), by repeat (first | exact Drawn0.refl _ | apply Drawn0.step)⟩
   have c2b0 := decide_eq_true c2
   clear c2
   have H' := Aside0.mk H
   clear H
   go_wp2
   go_roundg k1
   case measure => have := HK1.out; omega
   case rel => exact ⟨(wrap64 (2 * x3_1)), (wrap64 (x4_1 + 1)), (by first | rfl | (simp; done) | (simp [*]; done)), (by first | rfl | (simp; done) | (simp [*]; done)), H', ⟨by have := HK1.out; omega⟩, by repeat (first | exact Drawn0.refl _ | apply Drawn0.step)⟩

/-! ### spec_l1Rd_num: function 195 -/
set_option maxHeartbeats 8000000 in
set_option maxRecDepth 100000 in
theorem spec_l1Rd_num.calls (k : Nat) (g : Nat) (s0_0 : List Int) (s0_1 : Int) (r1 : Int) (r2 : Int) (w0 w : World) (hI : IsS161 w0 w g s0_0 s0_1) (hB : Below w0.heap.size w0 w) (h : spec_l1Rd_num.f k s0_0 s0_1 = some (r1, r2)) :
  Calls Try.prog 195 #[.pointer (some ⟨g, 0, none⟩)] w fun e w' => e = .returned (.int .i64 r1) ∧ IsS161 w0 w' g s0_0 r2 ∧ Below w0.heap.size w0 w' ∧ KeepBut w w' g none := by
 have HI0 := Aside0.mk hI
 have HK := Aside0.mk (KeepBut.refl w g none)
 have HL := Aside0.mk hB.size
 clear hI
 have HW0 := Aside0.mk hB.size
 have HB := Aside0.mk hB
 clear hB
 have H := h
 unfold spec_l1Rd_num.f at H
 clear h
 replace H := sqbi H
 obtain ⟨⟨t309, t310⟩, A2, H⟩ := H
 try dsimp only at H
 replace H := sqj H
 rcases H with ⟨c3, H⟩ | ⟨c3, H⟩
 ·have c3b0 := decide_eq_true c3
  clear c3
  replace H := sqbi H
  obtain ⟨⟨t311, t312⟩, A4, H⟩ := H
  try dsimp only at H
  simp only [Option.some.injEq, Prod.mk.injEq] at H
  obtain ⟨rfl, rfl⟩ := H
  go_enter Try.func195, Try.ntmps195
  go_wp2_with (first | ((with_reducible refine gate_callee (f := 109) rfl ?_); refine sqL (some 7) Try.func109 #[.pointer (some ⟨g, 0, none⟩), .int .i64 10] ?_; (with_reducible refine (spec_l1Rd_pick.calls k g s0_0 s0_1 10 t309 t310 w0 _ ?side1 ?side2 A2.out).mono ?_); (case side1 => exact IsS161.mv HI0); (case side2 => exact sqB2 HB (IsS161.ge HI0.out)); rintro e w5 ⟨rfl, hi, hb, hk⟩; refine ⟨_, rfl, ?_⟩; replace HK := Aside0.mk (KeepBut.trans (sqK HK) hk (.inl rfl)); replace HB := Aside0.mk (hb); replace HI0 := Aside0.mk (hi); (try clear hb); (try clear hb2); (try clear hk); (try clear hi)) | ((with_reducible refine gate_callee (f := 109) rfl ?_); refine sqL (some 11) Try.func109 #[.pointer (some ⟨g, 0, none⟩), .int .i64 21] ?_; (with_reducible refine (spec_l1Rd_pick.calls k g s0_0 t310 21 t311 t312 w0 _ ?side1 ?side2 A4.out).mono ?_); (case side1 => exact IsS161.mv HI0); (case side2 => exact sqB2 HB (IsS161.ge HI0.out)); rintro e w6 ⟨rfl, hi, hb, hk⟩; refine ⟨_, rfl, ?_⟩; replace HK := Aside0.mk (KeepBut.trans (sqK HK) hk (.inl rfl)); replace HB := Aside0.mk (hb); replace HI0 := Aside0.mk (hi); (try clear hb); (try clear hb2); (try clear hk); (try clear hi)))
  go_ret
  exact ⟨by first | rfl | (simp [errW_none, errW_some] <;> rfl) | (simp [*, errW_none, errW_some] <;> rfl), by repeat (first | (with_reducible first | exact HI0.out | apply IsS161.alloc | apply IsS161.drewN | apply IsS161.drew | apply IsS161.set_1) | exact HI0.out), by repeat (first | (with_reducible first | exact HB.out | apply below_alloc | apply pw_below_drewN | apply below_drew1 | refine below_set ?_ (IsS161.ge HI0.out)) | exact HB.out), sqK HK⟩
 have c3b0 := decide_eq_false c3
 clear c3
 replace H := sqj H
 rcases H with ⟨c7, H⟩ | ⟨c7, H⟩
 ·have c7b0 : (t309 == 4) = true := beq_iff_eq.mpr c7
  have c7b1 : (t309 != 4) = false := bne_eq_false_iff_eq.mpr c7
  clear c7
  replace H := sqbi H
  obtain ⟨⟨t313, t314⟩, A8, H⟩ := H
  try dsimp only at H
  simp only [Option.some.injEq, Prod.mk.injEq] at H
  obtain ⟨rfl, rfl⟩ := H
  go_enter Try.func195, Try.ntmps195
  go_wp2_with (first | ((with_reducible refine gate_callee (f := 109) rfl ?_); refine sqL (some 7) Try.func109 #[.pointer (some ⟨g, 0, none⟩), .int .i64 10] ?_; (with_reducible refine (spec_l1Rd_pick.calls k g s0_0 s0_1 10 t309 t310 w0 _ ?side1 ?side2 A2.out).mono ?_); (case side1 => exact IsS161.mv HI0); (case side2 => exact sqB2 HB (IsS161.ge HI0.out)); rintro e w9 ⟨rfl, hi, hb, hk⟩; refine ⟨_, rfl, ?_⟩; replace HK := Aside0.mk (KeepBut.trans (sqK HK) hk (.inl rfl)); replace HB := Aside0.mk (hb); replace HI0 := Aside0.mk (hi); (try clear hb); (try clear hb2); (try clear hk); (try clear hi)) | ((with_reducible refine gate_callee (f := 109) rfl ?_); refine sqL (some 16) Try.func109 #[.pointer (some ⟨g, 0, none⟩), .int .i64 3] ?_; (with_reducible refine (spec_l1Rd_pick.calls k g s0_0 t310 3 t313 t314 w0 _ ?side1 ?side2 A8.out).mono ?_); (case side1 => exact IsS161.mv HI0); (case side2 => exact sqB2 HB (IsS161.ge HI0.out)); rintro e w10 ⟨rfl, hi, hb, hk⟩; refine ⟨_, rfl, ?_⟩; replace HK := Aside0.mk (KeepBut.trans (sqK HK) hk (.inl rfl)); replace HB := Aside0.mk (hb); replace HI0 := Aside0.mk (hi); (try clear hb); (try clear hb2); (try clear hk); (try clear hi)))
  go_ret
  exact ⟨by first | rfl | (simp [errW_none, errW_some] <;> rfl) | (simp [*, errW_none, errW_some] <;> rfl), by repeat (first | (with_reducible first | exact HI0.out | apply IsS161.alloc | apply IsS161.drewN | apply IsS161.drew | apply IsS161.set_1) | exact HI0.out), by repeat (first | (with_reducible first | exact HB.out | apply below_alloc | apply pw_below_drewN | apply below_drew1 | refine below_set ?_ (IsS161.ge HI0.out)) | exact HB.out), sqK HK⟩
 have c7b0 : (t309 == 4) = false := beq_eq_false_iff_ne.mpr c7
 have c7b1 : (t309 != 4) = true := bne_iff_ne.mpr c7
 replace H := sqj H
 rcases H with ⟨c11, H⟩ | ⟨c11, H⟩
 ·have c11b0 : (t309 == 5) = true := beq_iff_eq.mpr c11
  have c11b1 : (t309 != 5) = false := bne_eq_false_iff_eq.mpr c11
  clear c11
  replace H := sqbi H
  obtain ⟨⟨t315, t316⟩, A12, H⟩ := H
  try dsimp only at H
  simp only [Option.some.injEq, Prod.mk.injEq] at H
  obtain ⟨rfl, rfl⟩ := H
  go_enter Try.func195, Try.ntmps195
  go_wp2_with (first | ((with_reducible refine gate_callee (f := 109) rfl ?_); refine sqL (some 7) Try.func109 #[.pointer (some ⟨g, 0, none⟩), .int .i64 10] ?_; (with_reducible refine (spec_l1Rd_pick.calls k g s0_0 s0_1 10 t309 t310 w0 _ ?side1 ?side2 A2.out).mono ?_); (case side1 => exact IsS161.mv HI0); (case side2 => exact sqB2 HB (IsS161.ge HI0.out)); rintro e w13 ⟨rfl, hi, hb, hk⟩; refine ⟨_, rfl, ?_⟩; replace HK := Aside0.mk (KeepBut.trans (sqK HK) hk (.inl rfl)); replace HB := Aside0.mk (hb); replace HI0 := Aside0.mk (hi); (try clear hb); (try clear hb2); (try clear hk); (try clear hi)) | ((with_reducible refine gate_callee (f := 109) rfl ?_); refine sqL (some 21) Try.func109 #[.pointer (some ⟨g, 0, none⟩), .int .i64 3] ?_; (with_reducible refine (spec_l1Rd_pick.calls k g s0_0 t310 3 t315 t316 w0 _ ?side1 ?side2 A12.out).mono ?_); (case side1 => exact IsS161.mv HI0); (case side2 => exact sqB2 HB (IsS161.ge HI0.out)); rintro e w14 ⟨rfl, hi, hb, hk⟩; refine ⟨_, rfl, ?_⟩; replace HK := Aside0.mk (KeepBut.trans (sqK HK) hk (.inl rfl)); replace HB := Aside0.mk (hb); replace HI0 := Aside0.mk (hi); (try clear hb); (try clear hb2); (try clear hk); (try clear hi)))
  go_ret
  exact ⟨by first | rfl | (simp [errW_none, errW_some] <;> rfl) | (simp [*, errW_none, errW_some] <;> rfl), by repeat (first | (with_reducible first | exact HI0.out | apply IsS161.alloc | apply IsS161.drewN | apply IsS161.drew | apply IsS161.set_1) | exact HI0.out), by repeat (first | (with_reducible first | exact HB.out | apply below_alloc | apply pw_below_drewN | apply below_drew1 | refine below_set ?_ (IsS161.ge HI0.out)) | exact HB.out), sqK HK⟩
 have c11b0 : (t309 == 5) = false := beq_eq_false_iff_ne.mpr c11
 have c11b1 : (t309 != 5) = true := bne_iff_ne.mpr c11
 replace H := sqj H
 rcases H with ⟨c15, H⟩ | ⟨c15, H⟩
 ·have c15b0 : (t309 == 6) = true := beq_iff_eq.mpr c15
  have c15b1 : (t309 != 6) = false := bne_eq_false_iff_eq.mpr c15
  clear c15
  replace H := sqbi H
  obtain ⟨⟨t317, t318⟩, A16, H⟩ := H
  try dsimp only at H
  replace H := sqbi H
  obtain ⟨t319, A17, H⟩ := H
  try dsimp only at H
  replace H := sqbi H
  obtain ⟨⟨t320, t321⟩, A18, H⟩ := H
  try dsimp only at H
  simp only [Option.some.injEq, Prod.mk.injEq] at H
  obtain ⟨rfl, rfl⟩ := H
  go_enter Try.func195, Try.ntmps195
  go_wp2_with (first | ((with_reducible refine gate_callee (f := 109) rfl ?_); refine sqL (some 7) Try.func109 #[.pointer (some ⟨g, 0, none⟩), .int .i64 10] ?_; (with_reducible refine (spec_l1Rd_pick.calls k g s0_0 s0_1 10 t309 t310 w0 _ ?side1 ?side2 A2.out).mono ?_); (case side1 => exact IsS161.mv HI0); (case side2 => exact sqB2 HB (IsS161.ge HI0.out)); rintro e w19 ⟨rfl, hi, hb, hk⟩; refine ⟨_, rfl, ?_⟩; replace HK := Aside0.mk (KeepBut.trans (sqK HK) hk (.inl rfl)); replace HB := Aside0.mk (hb); replace HI0 := Aside0.mk (hi); (try clear hb); (try clear hb2); (try clear hk); (try clear hi)) | ((with_reducible refine gate_callee (f := 109) rfl ?_); refine sqL (some 26) Try.func109 #[.pointer (some ⟨g, 0, none⟩), .int .i64 31] ?_; (with_reducible refine (spec_l1Rd_pick.calls k g s0_0 t310 31 t317 t318 w0 _ ?side1 ?side2 A16.out).mono ?_); (case side1 => exact IsS161.mv HI0); (case side2 => exact sqB2 HB (IsS161.ge HI0.out)); rintro e w20 ⟨rfl, hi, hb, hk⟩; refine ⟨_, rfl, ?_⟩; replace HK := Aside0.mk (KeepBut.trans (sqK HK) hk (.inl rfl)); replace HB := Aside0.mk (hb); replace HI0 := Aside0.mk (hi); (try clear hb); (try clear hb2); (try clear hk); (try clear hi)) | ((with_reducible refine gate_callee (f := 157) rfl ?_); refine sqL (some 27) Try.func157 #[.int .i64 t317] ?_; (with_reducible refine (spec_l1Power.calls k t317 t319 _ A17.out).mono ?_); rintro e w' ⟨rfl, ⟨nd, rfl⟩⟩; refine ⟨_, rfl, ?_⟩) | ((with_reducible refine gate_callee (f := 109) rfl ?_); refine sqL (some 29) Try.func109 #[.pointer (some ⟨g, 0, none⟩), .int .i64 3] ?_; (with_reducible refine (spec_l1Rd_pick.calls k g s0_0 t318 3 t320 t321 w0 _ ?side1 ?side2 A18.out).mono ?_); (case side1 => exact IsS161.mv HI0); (case side2 => exact sqB2 HB (IsS161.ge HI0.out)); rintro e w21 ⟨rfl, hi, hb, hk⟩; refine ⟨_, rfl, ?_⟩; replace HK := Aside0.mk (KeepBut.trans (sqK HK) hk (.inl rfl)); replace HB := Aside0.mk (hb); replace HI0 := Aside0.mk (hi); (try clear hb); (try clear hb2); (try clear hk); (try clear hi)))
  go_ret
  exact ⟨by first | rfl | (simp [errW_none, errW_some] <;> rfl) | (simp [*, errW_none, errW_some] <;> rfl), by repeat (first | (with_reducible first | exact HI0.out | apply IsS161.alloc | apply IsS161.drewN | apply IsS161.drew | apply IsS161.set_1) | exact HI0.out), by repeat (first | (with_reducible first | exact HB.out | apply below_alloc | apply pw_below_drewN | apply below_drew1 | refine below_set ?_ (IsS161.ge HI0.out)) | exact HB.out), sqK HK⟩
 have c15b0 : (t309 == 6) = false := beq_eq_false_iff_ne.mpr c15
 have c15b1 : (t309 != 6) = true := bne_iff_ne.mpr c15
 replace H := sqj H
 rcases H with ⟨c22, H⟩ | ⟨c22, H⟩
 ·have c22b0 : (t309 == 7) = true := beq_iff_eq.mpr c22
  have c22b1 : (t309 != 7) = false := bne_eq_false_iff_eq.mpr c22
  clear c22
  replace H := sqbi H
  obtain ⟨⟨t322, t323⟩, A23, H⟩ := H
  try dsimp only at H
  replace H := sqbi H
  obtain ⟨t324, A24, H⟩ := H
  try dsimp only at H
  replace H := sqbi H
  obtain ⟨⟨t325, t326⟩, A25, H⟩ := H
  try dsimp only at H
  simp only [Option.some.injEq, Prod.mk.injEq] at H
  obtain ⟨rfl, rfl⟩ := H
  go_enter Try.func195, Try.ntmps195
  go_wp2_with (first | ((with_reducible refine gate_callee (f := 109) rfl ?_); refine sqL (some 7) Try.func109 #[.pointer (some ⟨g, 0, none⟩), .int .i64 10] ?_; (with_reducible refine (spec_l1Rd_pick.calls k g s0_0 s0_1 10 t309 t310 w0 _ ?side1 ?side2 A2.out).mono ?_); (case side1 => exact IsS161.mv HI0); (case side2 => exact sqB2 HB (IsS161.ge HI0.out)); rintro e w26 ⟨rfl, hi, hb, hk⟩; refine ⟨_, rfl, ?_⟩; replace HK := Aside0.mk (KeepBut.trans (sqK HK) hk (.inl rfl)); replace HB := Aside0.mk (hb); replace HI0 := Aside0.mk (hi); (try clear hb); (try clear hb2); (try clear hk); (try clear hi)) | ((with_reducible refine gate_callee (f := 109) rfl ?_); refine sqL (some 35) Try.func109 #[.pointer (some ⟨g, 0, none⟩), .int .i64 31] ?_; (with_reducible refine (spec_l1Rd_pick.calls k g s0_0 t310 31 t322 t323 w0 _ ?side1 ?side2 A23.out).mono ?_); (case side1 => exact IsS161.mv HI0); (case side2 => exact sqB2 HB (IsS161.ge HI0.out)); rintro e w27 ⟨rfl, hi, hb, hk⟩; refine ⟨_, rfl, ?_⟩; replace HK := Aside0.mk (KeepBut.trans (sqK HK) hk (.inl rfl)); replace HB := Aside0.mk (hb); replace HI0 := Aside0.mk (hi); (try clear hb); (try clear hb2); (try clear hk); (try clear hi)) | ((with_reducible refine gate_callee (f := 157) rfl ?_); refine sqL (some 36) Try.func157 #[.int .i64 t322] ?_; (with_reducible refine (spec_l1Power.calls k t322 t324 _ A24.out).mono ?_); rintro e w' ⟨rfl, ⟨nd, rfl⟩⟩; refine ⟨_, rfl, ?_⟩) | ((with_reducible refine gate_callee (f := 109) rfl ?_); refine sqL (some 39) Try.func109 #[.pointer (some ⟨g, 0, none⟩), .int .i64 3] ?_; (with_reducible refine (spec_l1Rd_pick.calls k g s0_0 t323 3 t325 t326 w0 _ ?side1 ?side2 A25.out).mono ?_); (case side1 => exact IsS161.mv HI0); (case side2 => exact sqB2 HB (IsS161.ge HI0.out)); rintro e w28 ⟨rfl, hi, hb, hk⟩; refine ⟨_, rfl, ?_⟩; replace HK := Aside0.mk (KeepBut.trans (sqK HK) hk (.inl rfl)); replace HB := Aside0.mk (hb); replace HI0 := Aside0.mk (hi); (try clear hb); (try clear hb2); (try clear hk); (try clear hi)))
  go_ret
  exact ⟨by first | rfl | (simp [errW_none, errW_some] <;> rfl) | (simp [*, errW_none, errW_some] <;> rfl), by repeat (first | (with_reducible first | exact HI0.out | apply IsS161.alloc | apply IsS161.drewN | apply IsS161.drew | apply IsS161.set_1) | exact HI0.out), by repeat (first | (with_reducible first | exact HB.out | apply below_alloc | apply pw_below_drewN | apply below_drew1 | refine below_set ?_ (IsS161.ge HI0.out)) | exact HB.out), sqK HK⟩
 have c22b0 : (t309 == 7) = false := beq_eq_false_iff_ne.mpr c22
 have c22b1 : (t309 != 7) = true := bne_iff_ne.mpr c22
 have H' := Aside0.mk H
 clear H
 go_enter Try.func195, Try.ntmps195
 go_wp2_with (first | ((with_reducible refine gate_callee (f := 109) rfl ?_); refine sqL (some 7) Try.func109 #[.pointer (some ⟨g, 0, none⟩), .int .i64 10] ?_; (with_reducible refine (spec_l1Rd_pick.calls k g s0_0 s0_1 10 t309 t310 w0 _ ?side1 ?side2 A2.out).mono ?_); (case side1 => exact IsS161.mv HI0); (case side2 => exact sqB2 HB (IsS161.ge HI0.out)); rintro e w29 ⟨rfl, hi, hb, hk⟩; refine ⟨_, rfl, ?_⟩; replace HK := Aside0.mk (KeepBut.trans (sqK HK) hk (.inl rfl)); replace HB := Aside0.mk (hb); replace HI0 := Aside0.mk (hi); (try clear hb); (try clear hb2); (try clear hk); (try clear hi)))
 go_loopg [4, 5] k (fun kq v4 v5 w' => ∃ (x4_1 : Int) (x5_1 : Int) (x1001_1 : Int), v4 = .int .i64 x4_1 ∧ v5 = .int .i64 x5_1 ∧ Aside0 (spec_l1Rd_num.l0 kq x4_1 x5_1 s0_0 x1001_1 = some (r1, r2)) ∧ Aside0 (kq ≤ k) ∧ Aside0 (IsS161 w0 w' g s0_0 x1001_1) ∧ Aside0 (KeepBut w w' g none) ∧ Aside0 (Below w0.heap.size w0 w'))
 case atStart => exact ⟨(0), (0), (t310), (by first | rfl | (simp; done) | (simp [*]; done)), (by first | rfl | (simp; done) | (simp [*]; done)), H', ⟨Nat.le_refl _⟩, ⟨IsS161.mv HI0⟩, ⟨sqK HK⟩, ⟨sqB2 HB (IsS161.ge HI0.out)⟩⟩
 case round =>
  clear H'
  obtain ⟨x4_1, x5_1, x1001_1, rfl, rfl, HA, HK1, HI0, HK, HB⟩ := hrel
  cases gk with
  | zero => exact absurd HA.out (by simp [spec_l1Rd_num.l0])
  | succ k1 =>
   have H := HA.out
   clear HA
   simp only [spec_l1Rd_num.l0] at H
   replace H := sqi H
   rcases H with ⟨c30, H⟩ | ⟨c30, H⟩
   ·have c30b0 := decide_eq_false c30
    clear c30
    replace H := sqbi H
    obtain ⟨t329, A33, H⟩ := H
    try dsimp only at H
    simp only [Option.some.injEq, Prod.mk.injEq] at H
    obtain ⟨rfl, rfl⟩ := H
    go_wp2_with (first | ((with_reducible refine gate_callee (f := 54) rfl ?_); refine sqL (some 52) Try.func54 #[.int .i64 x4_1] ?_; (with_reducible refine (spec_NumWrap.calls x4_1 t329 _ A33.out).mono ?_); rintro e w' ⟨rfl, ⟨nd, rfl⟩⟩; refine ⟨_, rfl, ?_⟩))
    go_ret
    exact ⟨by first | rfl | (simp [errW_none, errW_some] <;> rfl) | (simp [*, errW_none, errW_some] <;> rfl), by repeat (first | (with_reducible first | exact HI0.out | apply IsS161.alloc | apply IsS161.drewN | apply IsS161.drew | apply IsS161.set_1) | exact HI0.out), by repeat (first | (with_reducible first | exact HB.out | apply below_alloc | apply pw_below_drewN | apply below_drew1 | refine below_set ?_ (IsS161.ge HI0.out)) | exact HB.out), sqK HK⟩
   have c30b0 := decide_eq_true c30
   clear c30
   replace H := sqbi H
   obtain ⟨⟨t327, t328⟩, A31, H⟩ := H
   try dsimp only at H
   have H' := Aside0.mk H
   clear H
   go_wp2_with (first | ((with_reducible refine gate_callee (f := 109) rfl ?_); refine sqL (some 49) Try.func109 #[.pointer (some ⟨g, 0, none⟩), .int .i64 256] ?_; (with_reducible refine (spec_l1Rd_pick.calls k1 g s0_0 x1001_1 256 t327 t328 w0 _ ?side1 ?side2 A31.out).mono ?_); (case side1 => exact IsS161.mv HI0); (case side2 => exact sqB2 HB (IsS161.ge HI0.out)); rintro e w32 ⟨rfl, hi, hb, hk⟩; refine ⟨_, rfl, ?_⟩; replace HK := Aside0.mk (KeepBut.trans (sqK HK) hk (.inl rfl)); replace HB := Aside0.mk (hb); replace HI0 := Aside0.mk (hi); (try clear hb); (try clear hb2); (try clear hk); (try clear hi)))
   go_roundg k1
   case measure => have := HK1.out; omega
   case rel => exact ⟨(wrap64 ((wrap64 (x4_1 * 256)) + t327)), (wrap64 (x5_1 + 1)), (t328), (by first | rfl | (simp; done) | (simp [*]; done)), (by first | rfl | (simp; done) | (simp [*]; done)), H', ⟨by have := HK1.out; omega⟩, ⟨IsS161.mv HI0⟩, ⟨sqK HK⟩, ⟨sqB2 HB (IsS161.ge HI0.out)⟩⟩

end Go.Proofs.Ytkekcenlleebeaa.PFnValLattice
