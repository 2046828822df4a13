/- Functions of the program as plain Lean functions, and that calls of them come to what these tell. Conditions: those in each law. -/
import Derived.Test.YtkekcenlleebeaaSq
import Derived.Test.YtkekcenlleebeaaDFnGapsJoin
import Derived.Test.YtkekcenlleebeaaQFnGapsJoinx0
import Derived.Test.YtkekcenlleebeaaQFnGapsJoinx12
namespace Go.Proofs.Ytkekcenlleebeaa.PFnGapsJoin
open Go.RowKit Go.Proofs.Ytkekcenlleebeaa.Sq Go.Proofs.YtkekcenlleebeaaW.PrintWords Go.Proofs.YtkekcenlleebeaaW.PrintLast Go.Proofs.YtkekcenlleebeaaW.PrintMore
attribute [local go_sem] max2_int min2_int max_two min_two max_three min_three max_four min_four   -- for this text's walks alone
set_option linter.unusedVariables false
set_option linter.unusedSimpArgs false

/-! ### spec_GapsJoin: function 39 -/
theorem spec_GapsJoin.mono_l : ∀ k, (∀ y0 y1 y2 y3 y4 y5 y6, LeO (spec_GapsJoin.l0 k y0 y1 y2 y3 y4 y5 y6) (spec_GapsJoin.l0 (k + 1) y0 y1 y2 y3 y4 y5 y6))
  | 0 => fun _ _ _ _ _ _ _ r h => by simp [spec_GapsJoin.l0] at h
  | k + 1 => by
    have ih0 := spec_GapsJoin.mono_l k
    · intro y0 y1 y2 y3 y4 y5 y6
      unfold spec_GapsJoin.l0
      repeat' first
      | (with_reducible exact ih0 _ _ _ _ _ _ _)
      | (with_reducible exact spec_l11Two.mono _ _ _ _ _)
      | (with_reducible exact LeO.refl _)
      | (with_reducible exact LeO.none _)
      | (with_reducible refine LeO.ite ?_ ?_)
      | (with_reducible refine LeO.bind ?_ (fun _ => ?_))
      | exact ih0 _ _ _ _ _ _ _
      | exact spec_l11Two.mono _ _ _ _ _
      | exact LeO.none _
      | refine LeO.ite ?_ ?_
      | refine LeO.bind ?_ (fun _ => ?_)
theorem spec_GapsJoin.mono : ∀ a0 a1 a2 a3 k, LeO (spec_GapsJoin.f k a0 a1 a2 a3) (spec_GapsJoin.f (k + 1) a0 a1 a2 a3) := by
  intro a0 a1 a2 a3 k
  have ih0 := spec_GapsJoin.mono_l k
  unfold spec_GapsJoin.f
  repeat' first
      | (with_reducible exact ih0 _ _ _ _ _ _ _)
      | (with_reducible exact spec_l11Two.mono _ _ _ _ _)
      | (with_reducible exact LeO.refl _)
      | (with_reducible exact LeO.none _)
      | (with_reducible refine LeO.ite ?_ ?_)
      | (with_reducible refine LeO.bind ?_ (fun _ => ?_))
      | exact ih0 _ _ _ _ _ _ _
      | exact spec_l11Two.mono _ _ _ _ _
      | exact LeO.none _
      | refine LeO.ite ?_ ?_
      | refine LeO.bind ?_ (fun _ => ?_)
def spec_GapsJoin.T7 : Bool × List (List Nat × List Nat) := (true, [([], []), ([0], [0]), ([], []), ([2], [2]), ([], []), ([3, 4], [3, 4]), ([5], [5]), ([], []), ([7], [7]), ([], []), ([8, 9], [8, 9]), ([10], [10]), ([6, 11], [6, 11]), ([12], [12]), ([1, 13, 12], [1, 13]), ([0, 1, 2, 3, 4, 5, 6, 7, 8, 9, 10, 11, 12, 13, 14], []), ([15, 14, 14, 0, 1, 2, 3, 4, 5, 6, 7, 8, 9, 10, 11, 12, 13, 14], [14, 15])])
def spec_GapsJoin.B7 : List Nat := [0, 1, 0, 4, 0, 28, 60, 0, 128, 0, 896, 1920, 4092, 8188, 16383, 32767, 65535]
theorem spec_GapsJoin.tab7 : rtab .any (opsOf Try.f39 7) = spec_GapsJoin.T7 := by kernel_rfl
theorem spec_GapsJoin.bits7 : waitsOk spec_GapsJoin.T7.2 spec_GapsJoin.B7 = true := by kernel_rfl
set_option maxHeartbeats 8000000 in
set_option maxRecDepth 100000 in
theorem spec_GapsJoin.calls (k : Nat) (a0_0 : Int) (A0_1 : Option Addr) (c0_1 : Nat) (l0_1 : List Int) (a1_0 : Int) (A1_1 : Option Addr) (c1_1 : Nat) (l1_1 : List Int) (r1 : Int) (r2 : List Int) (w : World) (hr0_1 : Kd.C (Kd.int .i64) w A0_1 l0_1.length l0_1) (hc0_1 : l0_1.length ≤ c0_1) (hr1_1 : Kd.C (Kd.int .i64) w A1_1 l1_1.length l1_1) (hc1_1 : l1_1.length ≤ c1_1) (h : spec_GapsJoin.f k a0_0 l0_1 a1_0 l1_1 = some (r1, r2)) :
    Calls Try.prog 39 #[.agg #[.int .i64 a0_0, .slice A0_1 l0_1.length c0_1], .agg #[.int .i64 a1_0, .slice A1_1 l1_1.length c1_1]] w fun e w' => ∃ v1_ : Value, e = .returned (.agg #[.int .i64 r1, v1_]) ∧ Kd.R (Kd.int .i64) 3 w' w.heap.size (fun _ => True) v1_ r2 ∧ Below w.heap.size w w' := by
  have hu41 := Try.underlying41
  have HR0_1 := Aside0.mk hr0_1
  have HC0_1 := Aside0.mk hc0_1
  clear hr0_1 hc0_1
  have HR1_1 := Aside0.mk hr1_1
  have HC1_1 := Aside0.mk hc1_1
  clear hr1_1 hc1_1
  have HB := Aside0.mk (Below.refl w.heap.size w)
  have H : ((spec_l11Two.f k a0_0 l0_1 a1_0 l1_1).bind fun t376 => (if t376 = true then (spec_GapsJoin.l0 k 0 a0_0 l0_1 a1_0 l1_1 a0_0 ([] : List Int)) else (some (0, ([] : List Int))))) = some (r1, r2) := h
  clear h
  replace H := Option.bind_eq_some_iff.mp H
  obtain ⟨t376, A30, H⟩ := H
  replace H : (if t376 = true then (spec_GapsJoin.l0 k 0 a0_0 l0_1 a1_0 l1_1 a0_0 ([] : List Int)) else (some (0, ([] : List Int)))) = some (r1, r2) := H
  have A3 := Aside0.mk A30
  clear A30
  by_cases c4 : t376 = true
  · subst c4
    have H1 : (spec_GapsJoin.l0 k 0 a0_0 l0_1 a1_0 l1_1 a0_0 ([] : List Int)) = some (r1, r2) := by rw [if_pos rfl] at H; exact H
    clear H
    have H := H1
    clear H1
    have H' := Aside0.mk H
    clear H
    go_enter Try.func39, Try.ntmps39
    go_wp2_with (first | ((with_reducible refine gate_dst (N := 2) rfl ?_); refine sqx 2 #[.int .i64 a0_0, .slice A0_1 l0_1.length c0_1] 41 ?_; intro gb373 hg w5 hbox hb; have BK373 := Aside0.mk (hbox); have GW373 := sqg HB hg; have GE373 := sqg HB hg; replace HB := sqs HB hb; clear hb hbox hg) | ((with_reducible refine gate_dst (N := 3) rfl ?_); refine sqx 3 #[.int .i64 a1_0, .slice A1_1 l1_1.length c1_1] 41 ?_; intro gb374 hg w6 hbox hb; have BK374 := Aside0.mk (hbox); have GW374 := sqg HB hg; have GE374 := sqg HB hg; have NB373_374 := sqn BK373 hg; have NB374_373 := sqm BK373 hg; replace BK373 := sqb BK373 hb; replace HB := sqs HB hb; clear hb hbox hg) | ((with_reducible refine gate_dst (N := 4) rfl ?_); refine sqx 4 #[.int .i64 0, .slice none 0 0] 41 ?_; intro gb375 hg w7 hbox hb; have BK375 := Aside0.mk (hbox); have GW375 := sqg HB hg; have GE375 := sqg HB hg; have NB373_375 := sqn BK373 hg; have NB375_373 := sqm BK373 hg; have NB374_375 := sqn BK374 hg; have NB375_374 := sqm BK374 hg; replace BK373 := sqb BK373 hb; replace BK374 := sqb BK374 hb; replace HB := sqs HB hb; clear hb hbox hg; have hnb8 := NB373_374.out; have hnc8 := NB374_373.out; have hnb9 := NB373_375.out; have hnc9 := NB375_373.out; obtain ⟨hcz10_0, hcz10_1, hfz10_0, hfz10_1⟩ := sqc2 BK373; have hnb11 := NB374_375.out; have hnc11 := NB375_374.out; obtain ⟨hcz12_0, hcz12_1, hfz12_0, hfz12_1⟩ := sqc2 BK374) | ((with_reducible refine gate_callee (f := 124) rfl ?_); refine sqL (some 9) Try.func124 #[.agg #[.int .i64 a0_0, .slice A0_1 l0_1.length c0_1], .agg #[.int .i64 a1_0, .slice A1_1 l1_1.length c1_1]] ?_; (with_reducible refine (spec_l11Two.calls k a0_0 _ _ l0_1 a1_0 _ _ l1_1 true _ ?side1 ?side2 ?side3 ?side4 A3.out).mono ?_); (case side1 => repeat (first | exact (Kd.C_below HR0_1.out HB.out) | (with_reducible refine Kd.C_alloc ?_ _) | (with_reducible refine Kd.C_drewN ?_ _) | (with_reducible refine Kd.C_drew ?_))); (case side2 => exact HC0_1.out); (case side3 => repeat (first | exact (Kd.C_below HR1_1.out HB.out) | (with_reducible refine Kd.C_alloc ?_ _) | (with_reducible refine Kd.C_drewN ?_ _) | (with_reducible refine Kd.C_drew ?_))); (case side4 => exact HC1_1.out); rintro e w13 ⟨rfl, hb⟩; refine ⟨_, rfl, ?_⟩; replace BK373 := sqb BK373 hb; replace BK374 := sqb BK374 hb; replace BK375 := sqb BK375 hb; replace HB := sqs HB hb; (try clear hb); obtain ⟨hcz14_0, hcz14_1, hfz14_0, hfz14_1⟩ := sqc2 BK373) | ((with_reducible refine gate_dst (N := 5) rfl ?_); refine sqx 5 #[.int .i64 0, .slice none 0 0] 41 ?_; intro gb377 hg w15 hbox hb; have BK377 := Aside0.mk (hbox); have GW377 := sqg HB hg; have GE377 := sqg HB hg; have NB373_377 := sqn BK373 hg; have NB377_373 := sqm BK373 hg; have NB374_377 := sqn BK374 hg; have NB377_374 := sqm BK374 hg; have NB375_377 := sqn BK375 hg; have NB377_375 := sqm BK375 hg; replace BK373 := sqb BK373 hb; replace BK374 := sqb BK374 hb; replace BK375 := sqb BK375 hb; replace HB := sqs HB hb; clear hb hbox hg; have hnb16 := NB377_373.out; have hnc16 := NB373_377.out; have hnb17 := NB377_374.out; have hnc17 := NB374_377.out; have hnb18 := NB377_375.out; have hnc18 := NB375_377.out; obtain ⟨hcz19_0, hcz19_1, hfz19_0, hfz19_1⟩ := sqc2 BK377))
    go_loopg [6] k (fun kq v6 w' => ∃ (x6_1 : Int) (x378001_1 : List Int) (u378001 : Value), v6 = .int .i64 x6_1 ∧ Aside0 (spec_GapsJoin.l0 kq x6_1 a0_0 l0_1 a1_0 l1_1 a0_0 x378001_1 = some (r1, r2)) ∧ Aside0 (kq ≤ k) ∧ Aside0 (Kd.R (Kd.int .i64) 3 w' w.heap.size (fun _ => True) u378001 x378001_1) ∧ Aside0 (w'.heap[gb373]? = some (.cells #[.int .i64 a0_0, (.slice A0_1 l0_1.length c0_1)] 41 (0, 0))) ∧ Aside0 (w'.heap[gb374]? = some (.cells #[.int .i64 a1_0, (.slice A1_1 l1_1.length c1_1)] 41 (0, 0))) ∧ Aside0 (w'.heap[gb375]? = some (.cells #[.int .i64 0, (.slice none 0 0)] 41 (0, 0))) ∧ Aside0 (w'.heap[gb377]? = some (.cells #[.int .i64 a0_0, u378001] 41 (0, 0))) ∧ Aside0 (Below w.heap.size w w'))
    case atStart => exact ⟨(0), (([] : List Int)), (.slice none 0 0), (by first | rfl | (simp; done) | (simp [*]; done)), H', ⟨Nat.le_refl _⟩, ⟨by first | exact Kd.R_nil _ _ _ _ _ | exact Kd.N_nil _ _ _ _ _ | exact Kd.V_nil _ _ _ _ _ | exact Kd.Q_nil _ _ _ _ _ | exact Kd.S_nil _ _ _ _ _⟩, ⟨by refine sqt ?_; refine blk_far ?_ NB373_377.out _; refine sqt ?_; refine blk_far ?_ NB373_377.out _; refine sqt ?_; exact BK373.out⟩, ⟨by refine sqt ?_; refine blk_far ?_ NB374_377.out _; refine sqt ?_; refine blk_far ?_ NB374_377.out _; refine sqt ?_; exact BK374.out⟩, ⟨by refine sqt ?_; refine blk_far ?_ NB375_377.out _; refine sqt ?_; refine blk_far ?_ NB375_377.out _; refine sqt ?_; exact BK375.out⟩, ⟨by refine sqt ?_; refine blk_put (cs := #[.int .i64 a0_0, .slice none 0 0]) ?_ 1 _ rfl; refine sqt ?_; refine blk_put (cs := #[.int .i64 0, .slice none 0 0]) ?_ 0 _ rfl; refine sqt ?_; exact BK377.out⟩, sqh HB⟩
    case round =>
      clear H'
      try clear c1
      try clear p2
      try clear c3
      try clear c4
      try clear c8
      try clear c9
      try clear c11
      try clear c12
      try clear c16
      try clear c17
      try clear c18
      try clear hcz10_0
      try clear hcz10_1
      try clear hcz12_0
      try clear hcz12_1
      try clear hcz14_0
      try clear hcz14_1
      try clear hcz19_0
      try clear hcz19_1
      try clear hfz10_0
      try clear hfz10_1
      try clear hfz12_0
      try clear hfz12_1
      try clear hfz14_0
      try clear hfz14_1
      try clear hfz19_0
      try clear hfz19_1
      obtain ⟨x6_1, x378001_1, u378001, rfl, HA, HK1, HO_378001, BK373, BK374, BK375, BK377, HB⟩ := hrel
      cases gk with
      | zero => exact absurd HA.out (by simp [spec_GapsJoin.l0])
      | succ k1 =>
        have H := HA.out
        clear HA
        simp only [spec_GapsJoin.l0] at H
        by_cases c20 : x6_1 < (l0_1.length : Int)
        · rw [if_pos c20] at H
          have c20b0 : decide (x6_1 < (l0_1.length : Int)) = true := decide_eq_true c20
          clear c20
          by_cases c21 : 0 ≤ x6_1
          · rw [if_pos c21] at H
            have c21b0 : decide (0 ≤ x6_1) = true := decide_eq_true c21
            clear c21
            by_cases c22 : x6_1 < (l1_1.length : Int)
            · rw [if_pos c22] at H
              have c22b0 : decide (x6_1 < (l1_1.length : Int)) = true := decide_eq_true c22
              clear c22
              replace H := Option.bind_eq_some_iff.mp H
              obtain ⟨t380, A230, H⟩ := H
              replace H : (if x378001_1.length < 17592186044416 then (spec_GapsJoin.l0 k1 (wrap64 (x6_1 + 1)) a0_0 l0_1 a1_0 l1_1 a0_0 (x378001_1 ++ [t380])) else (none)) = some (r1, r2) := H
              have A23 := Aside0.mk A230
              clear A230
              by_cases c24 : x378001_1.length < 17592186044416
              · rw [if_pos c24] at H
                have LMc24 := Aside0.mk c24
                clear c24
                obtain ⟨y381, hy381⟩ : ∃ y_ : List Int, y_ = (x378001_1 ++ [t380]) := ⟨_, rfl⟩
                replace H : (spec_GapsJoin.l0 k1 (wrap64 (x6_1 + 1)) a0_0 l0_1 a1_0 l1_1 a0_0 y381) = some (r1, r2) := by first | (rw [hy381]; with_reducible exact H) | (have H2_ := (Option.bind_some _ _).symm.trans H; rw [hy381]; with_reducible exact H2_) | (have H2_ := (Option.bind_some _ _).symm.trans H; with_reducible exact H2_) | with_reducible exact H | (rw [hy381]; exact H) | exact H
                have Ny381 := Aside0.mk hy381
                clear hy381
                have H' := Aside0.mk H
                clear H
                have hnb25 := NB373_374.out
                have hnc25 := NB374_373.out
                have hnb26 := NB373_375.out
                have hnc26 := NB375_373.out
                have hnb27 := NB373_377.out
                have hnc27 := NB377_373.out
                obtain ⟨hcz28_0, hcz28_1, hfz28_0, hfz28_1⟩ := sqc2 BK373
                try go_wp2
                replace HO_378001 := Aside0.mk (Kd.R_drew HO_378001.out)
                replace BK373 := Aside0.mk (blk_drew BK373.out)
                replace BK374 := Aside0.mk (blk_drew BK374.out)
                replace BK375 := Aside0.mk (blk_drew BK375.out)
                replace BK377 := Aside0.mk (blk_drew BK377.out)
                replace HB := Aside0.mk (below_drew1 HB.out)
                have p378 : 0 ≤ (x6_1 : Int) := of_decide_eq_true (by first | (with_reducible assumption) | assumption)
                have q378 : x6_1 < (l0_1.length : Int) := of_decide_eq_true (by first | (with_reducible assumption) | assumption)
                obtain ⟨ad378, e378, hx378_0⟩ := Kd.at_int HR0_1.out x6_1 p378 q378
                have hw378_0 := hx378_0
                cases e378
                replace hx378_0 := (HB.out.cell (World.block_lt_of_cell? w _ hx378_0)).trans hx378_0
                replace p378 := eq_true p378
                replace q378 := eq_true q378
                have p379 : 0 ≤ (x6_1 : Int) := of_decide_eq_true (by first | (with_reducible assumption) | assumption)
                have q379 : x6_1 < (l1_1.length : Int) := of_decide_eq_true (by first | (with_reducible assumption) | assumption)
                obtain ⟨ad379, e379, hx379_0⟩ := Kd.at_int HR1_1.out x6_1 p379 q379
                have hw379_0 := hx379_0
                cases e379
                replace hx379_0 := (HB.out.cell (World.block_lt_of_cell? w _ hx379_0)).trans hx379_0
                replace p379 := eq_true p379
                replace q379 := eq_true q379
                refine start_ (n := 17) (S := fun w' => w'.cell? ⟨gb377, 0, none⟩ = some (.int .i64 a0_0) ∧ w'.cell? ⟨gb377, 1, none⟩ = some (u378001) ∧ w'.cell? ⟨gb373, 0, none⟩ = some (.int .i64 a0_0) ∧ w'.cell? ⟨gb373, 1, none⟩ = some (.slice (some ad378) l0_1.length c0_1) ∧ w'.cell? ⟨gb374, 0, none⟩ = some (.int .i64 a1_0) ∧ w'.cell? ⟨gb374, 1, none⟩ = some (.slice (some ad379) l1_1.length c1_1) ∧ w'.cell? (ad378.add (x6_1).toNat) = some (.int .i64 (rd l0_1 x6_1)) ∧ w'.cell? (ad379.add (x6_1).toNat) = some (.int .i64 (rd l1_1 x6_1))) (ds := [16]) #[false, false, false, false, false, false, false, false, false, false, false, false, false, false, false, false, false] (by kernel_rfl) rfl rfl ⟨(blk_cell BK377.out 0).trans rfl, (blk_cell BK377.out 1).trans rfl, (blk_cell BK373.out 0).trans rfl, (blk_cell BK373.out 1).trans rfl, (blk_cell BK374.out 0).trans rfl, (blk_cell BK374.out 1).trans rfl, ((HB.out.cell (World.block_lt_of_cell? w _ hw378_0)).trans hw378_0), ((HB.out.cell (World.block_lt_of_cell? w _ hw379_0)).trans hw379_0)⟩ (fun hHeld => ?_); refine with_tabW spec_GapsJoin.tab7 spec_GapsJoin.bits7 (fun HT_ HW_ => ?_)
                generalize wr.drew = w29 at HO_378001 BK373 BK374 BK375 BK377 HB hx378_0 hx379_0 hHeld ⊢
                refine sqp HT_ 0 22 ?_
                refine sqp HT_ 2 24 ?_
                refine sqp HT_ 4 26 ?_
                refine sqp HT_ 7 29 ?_
                refine sqp HT_ 9 31 ?_
                refine sqw HT_ HW_ 1 23 hHeld ?_
                refine sqw HT_ HW_ 3 25 hHeld ?_
                refine sqp HT_ 5 27 ?_
                refine sqw HT_ HW_ 6 28 hHeld ?_
                refine sqw HT_ HW_ 8 30 hHeld ?_
                refine sqp HT_ 10 32 ?_
                refine sqw HT_ HW_ 11 33 hHeld ?_
                refine sqo HT_ 12 34 (fun K hK => ?_)
                refine sqG Try.func122 #[.int .i64 (rd l0_1 x6_1), .int .i64 (rd l1_1 x6_1)] ?_
                with_reducible refine (spec_l8Max.calls (rd l0_1 x6_1) (rd l1_1 x6_1) t380 _ A23.out).mono ?_
                rintro e w' ⟨rfl, ⟨nd, rfl⟩⟩
                refine ⟨_, rfl, ?_⟩
                refine hK.out _ _ ⟨(blk_cell BK377.out 0).trans rfl, (blk_cell BK377.out 1).trans rfl, (blk_cell BK373.out 0).trans rfl, (blk_cell BK373.out 1).trans rfl, (blk_cell BK374.out 0).trans rfl, (blk_cell BK374.out 1).trans rfl, ((HB.out.cell (World.block_lt_of_cell? w _ hw378_0)).trans hw378_0), ((HB.out.cell (World.block_lt_of_cell? w _ hw379_0)).trans hw379_0)⟩ (fun hHeld => ?_)
                clear hK K
                refine sqnm ?_
                refine sqo HT_ 13 35 (fun K hK => ?_)
                refine value_ (w1 := ?_) (v := ?_) (by rfl) rfl ?_ ?_
                rotate_left 2
                · go_simp
                  constructor
                  · rfl
                  · rfl
                refine hK.out _ _ ⟨(blk_cell (blk_alloc BK377.out _) 0).trans rfl, (blk_cell (blk_alloc BK377.out _) 1).trans rfl, (blk_cell (blk_alloc BK373.out _) 0).trans rfl, (blk_cell (blk_alloc BK373.out _) 1).trans rfl, (blk_cell (blk_alloc BK374.out _) 0).trans rfl, (blk_cell (blk_alloc BK374.out _) 1).trans rfl, (World.cell?_alloc_lt _ _ _ (World.block_lt_of_cell? _ _ (((HB.out.cell (World.block_lt_of_cell? w _ hw378_0)).trans hw378_0)))).trans (((HB.out.cell (World.block_lt_of_cell? w _ hw378_0)).trans hw378_0)), (World.cell?_alloc_lt _ _ _ (World.block_lt_of_cell? _ _ (((HB.out.cell (World.block_lt_of_cell? w _ hw379_0)).trans hw379_0)))).trans (((HB.out.cell (World.block_lt_of_cell? w _ hw379_0)).trans hw379_0))⟩ (fun hHeld => ?_)
                clear hK K
                refine sqnm ?_
                refine sqo HT_ 14 36 (fun K hK => ?_)
                refine Kd.R_append_step (Kd.int .i64) (w0 := w) w.heap.size (by rfl) (.tmp 23) (.tmp 35) 39 3 (.int .i64 0) 8 rfl Try.underlying39 info3 rfl (by decide) (by omega) u378001 x378001_1 t380 [.int .i64 t380] (fun _ => True) (fun _ => False) rfl rfl ?aP (fun _ hk => hk.elim) ?aF ?aO ?aB ?aS ?aL ?_
                (case aP => exact rfl)
                (case aB => exact (by repeat (first | (with_reducible first | exact HB.out | apply below_alloc | apply pw_below_drewN | apply below_drew1 | refine below_set ?_ GE373.out | refine below_set ?_ GE374.out | refine below_set ?_ GE375.out | refine below_set ?_ GE377.out) | exact HB.out)))
                (case aF => exact (fun _ _ => trivial))
                (case aO => exact (by (with_reducible repeat (first | apply Kd.R_alloc | apply Kd.R_drewN | apply Kd.R_drew)); exact HO_378001.out))
                (case aS => exact (below_size (by repeat (first | (with_reducible first | exact HB.out | apply below_alloc | apply pw_below_drewN | apply below_drew1 | refine below_set ?_ GE373.out | refine below_set ?_ GE374.out | refine below_set ?_ GE375.out | refine below_set ?_ GE377.out) | exact HB.out))))
                (case aL => have := LMc24.out; omega)
                intro v382 w30 ho hb hg hat
                rw [← Ny381.out] at ho
                have n0_ := Aside0.mk (blk_grown (g := gb373) (o := .cells #[.int .i64 a0_0, .slice (some ad378) l0_1.length c0_1] 41 (0, 0)) (by refine sqt ?_; exact BK373.out) hg (Kd.R_ne HO_378001.out BK373.out (by decide)))
                have n1_ := Aside0.mk (blk_grown (g := gb374) (o := .cells #[.int .i64 a1_0, .slice (some ad379) l1_1.length c1_1] 41 (0, 0)) (by refine sqt ?_; exact BK374.out) hg (Kd.R_ne HO_378001.out BK374.out (by decide)))
                have n2_ := Aside0.mk (blk_grown (g := gb375) (o := .cells #[.int .i64 0, .slice none 0 0] 41 (0, 0)) (by refine sqt ?_; exact BK375.out) hg (Kd.R_ne HO_378001.out BK375.out (by decide)))
                have n3_ := Aside0.mk (blk_grown (g := gb377) (o := .cells #[.int .i64 a0_0, u378001] 41 (0, 0)) (by refine sqt ?_; exact BK377.out) hg (Kd.R_ne HO_378001.out BK377.out (by decide)))
                have n4_ := Aside0.mk (hb)
                have n5_ := Aside0.mk (ho)
                clear BK373
                clear BK374
                clear BK375
                clear BK377
                clear HB
                clear HO_378001
                have BK373 := n0_
                have BK374 := n1_
                have BK375 := n2_
                have BK377 := n3_
                have HB := n4_
                have HO383 := n5_
                clear n0_ n1_ n2_ n3_ n4_ n5_
                clear ho hb hg hat
                obtain ⟨Ao31, co31, eo31⟩ := Kd.R_slice HO383.out
                (first | subst eo31 | (injection eo31 with f1_ f2_ f3_; have f4_ := f1_.symm; have f5_ := f3_.symm; clear f1_ f2_ f3_; subst f4_; subst f5_))
                refine hK.out _ _ ⟨(blk_cell BK377.out 0).trans rfl, (blk_cell BK377.out 1).trans rfl, (blk_cell BK373.out 0).trans rfl, (blk_cell BK373.out 1).trans rfl, (blk_cell BK374.out 0).trans rfl, (blk_cell BK374.out 1).trans rfl, ((HB.out.cell (World.block_lt_of_cell? w _ hw378_0)).trans hw378_0), ((HB.out.cell (World.block_lt_of_cell? w _ hw379_0)).trans hw379_0)⟩ (fun hHeld => ?_)
                clear hK K
                refine sqnm ?_
                refine sqp HT_ 15 37 ?_
                refine last_ (i := 16) (N := none) #[true, true, true, true, true, true, true, true, true, true, true, true, true, true, true, true, true] rfl rfl (one_of HT_.out (by kernel_rfl)) (by decide) (fun K hK => ?_)
                have hs32 : w30.cell? ⟨gb377, 1, none⟩ = some (u378001) := (blk_cell BK377.out 1).trans rfl
                have hfs32 := blk_frozen BK377.out 1
                have hns32_0 := NB373_377.out
                have hns32_1 := NB374_377.out
                have hns32_2 := NB375_377.out
                have hms32_0 := NB377_373.out
                have hms32_1 := NB377_374.out
                have hms32_2 := NB377_375.out
                refine skip_ (w1 := ?_) (by rfl) rfl ?_ ?_
                rotate_left
                · go_simp
                  rfl
                refine hK.out _ _ ?_
                clear hK K
                refine done_ (done_of HT_.out (by kernel_rfl)) ?_
                try go_wp2
                go_roundg k1
                case measure => have := HK1.out; omega
                case rel => exact ⟨(wrap64 (x6_1 + 1)), (y381), (.slice Ao31 y381.length co31), (by first | rfl | (simp; done) | (simp [*]; done)), H', ⟨by have := HK1.out; omega⟩, ⟨by (with_reducible repeat (first | apply Kd.R_alloc | apply Kd.R_drewN | apply Kd.R_drew)); exact Kd.R_mono (Kd.R_far (p := ⟨gb377, 1, none⟩) (Kd.R_types HO383.out BK377.out (by decide)) (fun _ hk => hk.2) (.slice Ao31 y381.length co31)) (fun _ hk => trivial)⟩, ⟨by refine sqt ?_; refine blk_far ?_ NB373_377.out _; refine sqt ?_; exact BK373.out⟩, ⟨by refine sqt ?_; refine blk_far ?_ NB374_377.out _; refine sqt ?_; exact BK374.out⟩, ⟨by refine sqt ?_; refine blk_far ?_ NB375_377.out _; refine sqt ?_; exact BK375.out⟩, ⟨by refine sqt ?_; refine blk_put (cs := #[.int .i64 a0_0, u378001]) ?_ 1 _ rfl; refine sqt ?_; exact BK377.out⟩, sqh HB⟩
              · rw [if_neg c24] at H
                exact absurd H (by simp)
            · rw [if_neg c22] at H
              exact absurd H (by simp)
          · rw [if_neg c21] at H
            exact absurd H (by simp)
        · rw [if_neg c20] at H
          have c20b0 : decide (x6_1 < (l0_1.length : Int)) = false := decide_eq_false c20
          clear c20
          simp only [Option.some.injEq, Prod.mk.injEq] at H
          obtain ⟨rfl, rfl⟩ := H
          have hnb33 := NB373_374.out
          have hnc33 := NB374_373.out
          have hnb34 := NB373_375.out
          have hnc34 := NB375_373.out
          have hnb35 := NB373_377.out
          have hnc35 := NB377_373.out
          obtain ⟨hcz36_0, hcz36_1, hfz36_0, hfz36_1⟩ := sqc2 BK373
          have hnb37 := NB377_374.out
          have hnc37 := NB374_377.out
          have hnb38 := NB377_375.out
          have hnc38 := NB375_377.out
          obtain ⟨hcz39_0, hcz39_1, hfz39_0, hfz39_1⟩ := sqc2 BK377
          have hnb40 := NB375_374.out
          have hnc40 := NB374_375.out
          obtain ⟨hcz41_0, hcz41_1, hfz41_0, hfz41_1⟩ := sqc2 BK375
          obtain ⟨Ao42, co42, eo42⟩ := Kd.R_slice HO_378001.out
          subst eo42
          go_wp2
          refine bodyPost_ret (results_cell_row rfl _ _ gb375 41 #[.int .i64 a0_0, .slice Ao42 x378001_1.length co42] (0, 0) _ rfl (by refine sqt ?_; refine blk_put (cs := #[.int .i64 a0_0, .slice none 0 0]) ?_ 1 _ rfl; refine sqt ?_; refine blk_put (cs := #[.int .i64 0, .slice none 0 0]) ?_ 0 _ rfl; refine sqt ?_; exact BK375.out) Try.underlying41 rfl (by kernel_rfl)) rfl ?_
          exact ⟨_, by first | rfl | (simp [errW_none, errW_some] <;> rfl) | (simp [*, errW_none, errW_some] <;> rfl), by (with_reducible repeat (first | apply Kd.R_alloc | apply Kd.R_drewN | apply Kd.R_drew)); exact Kd.R_mono (Kd.R_far (p := ⟨gb375, 1, none⟩) (Kd.R_far (p := ⟨gb375, 0, none⟩) (Kd.R_types HO_378001.out BK375.out (by decide)) (fun _ hk => hk.2) (.int .i64 a0_0)) (fun _ hk => hk.2) (.slice Ao42 x378001_1.length co42)) (fun _ hk => trivial), by repeat (first | (with_reducible first | exact HB.out | apply below_alloc | apply pw_below_drewN | apply below_drew1 | refine below_set ?_ GE373.out | refine below_set ?_ GE374.out | refine below_set ?_ GE375.out | refine below_set ?_ GE377.out) | exact HB.out)⟩
  · replace c4 := Bool.eq_false_iff.mpr c4
    subst c4
    have H1 : (some (0, ([] : List Int))) = some (r1, r2) := by rw [if_neg (show ¬ (false = true) by decide)] at H; exact H
    clear H
    have H := H1
    clear H1
    simp only [Option.some.injEq, Prod.mk.injEq] at H
    obtain ⟨rfl, rfl⟩ := H
    go_enter Try.func39, Try.ntmps39
    go_wp2_with (first | ((with_reducible refine gate_dst (N := 2) rfl ?_); refine sqx 2 #[.int .i64 a0_0, .slice A0_1 l0_1.length c0_1] 41 ?_; intro gb373 hg w43 hbox hb; have BK373 := Aside0.mk (hbox); have GW373 := sqg HB hg; have GE373 := sqg HB hg; replace HB := sqs HB hb; clear hb hbox hg) | ((with_reducible refine gate_dst (N := 3) rfl ?_); refine sqx 3 #[.int .i64 a1_0, .slice A1_1 l1_1.length c1_1] 41 ?_; intro gb374 hg w44 hbox hb; have BK374 := Aside0.mk (hbox); have GW374 := sqg HB hg; have GE374 := sqg HB hg; have NB373_374 := sqn BK373 hg; have NB374_373 := sqm BK373 hg; replace BK373 := sqb BK373 hb; replace HB := sqs HB hb; clear hb hbox hg) | ((with_reducible refine gate_dst (N := 4) rfl ?_); refine sqx 4 #[.int .i64 0, .slice none 0 0] 41 ?_; intro gb375 hg w45 hbox hb; have BK375 := Aside0.mk (hbox); have GW375 := sqg HB hg; have GE375 := sqg HB hg; have NB373_375 := sqn BK373 hg; have NB375_373 := sqm BK373 hg; have NB374_375 := sqn BK374 hg; have NB375_374 := sqm BK374 hg; replace BK373 := sqb BK373 hb; replace BK374 := sqb BK374 hb; replace HB := sqs HB hb; clear hb hbox hg; have hnb46 := NB373_374.out; have hnc46 := NB374_373.out; have hnb47 := NB373_375.out; have hnc47 := NB375_373.out; obtain ⟨hcz48_0, hcz48_1, hfz48_0, hfz48_1⟩ := sqc2 BK373; have hnb49 := NB374_375.out; have hnc49 := NB375_374.out; obtain ⟨hcz50_0, hcz50_1, hfz50_0, hfz50_1⟩ := sqc2 BK374) | ((with_reducible refine gate_callee (f := 124) rfl ?_); refine sqL (some 9) Try.func124 #[.agg #[.int .i64 a0_0, .slice A0_1 l0_1.length c0_1], .agg #[.int .i64 a1_0, .slice A1_1 l1_1.length c1_1]] ?_; (with_reducible refine (spec_l11Two.calls k a0_0 _ _ l0_1 a1_0 _ _ l1_1 false _ ?side1 ?side2 ?side3 ?side4 A3.out).mono ?_); (case side1 => repeat (first | exact (Kd.C_below HR0_1.out HB.out) | (with_reducible refine Kd.C_alloc ?_ _) | (with_reducible refine Kd.C_drewN ?_ _) | (with_reducible refine Kd.C_drew ?_))); (case side2 => exact HC0_1.out); (case side3 => repeat (first | exact (Kd.C_below HR1_1.out HB.out) | (with_reducible refine Kd.C_alloc ?_ _) | (with_reducible refine Kd.C_drewN ?_ _) | (with_reducible refine Kd.C_drew ?_))); (case side4 => exact HC1_1.out); rintro e w51 ⟨rfl, hb⟩; refine ⟨_, rfl, ?_⟩; replace BK373 := sqb BK373 hb; replace BK374 := sqb BK374 hb; replace BK375 := sqb BK375 hb; replace HB := sqs HB hb; (try clear hb); obtain ⟨hcz52_0, hcz52_1, hfz52_0, hfz52_1⟩ := sqc2 BK375))
    refine bodyPost_ret (results_cell_row rfl _ _ gb375 41 #[.int .i64 0, .slice none 0 0] (0, 0) _ rfl (by refine sqt ?_; refine blk_put (cs := #[.int .i64 0, .slice none 0 0]) ?_ 1 _ rfl; refine sqt ?_; refine blk_put (cs := #[.int .i64 0, .slice none 0 0]) ?_ 0 _ rfl; refine sqt ?_; exact BK375.out) Try.underlying41 rfl (by kernel_rfl)) rfl ?_
    exact ⟨_, by first | rfl | (simp [errW_none, errW_some] <;> rfl) | (simp [*, errW_none, errW_some] <;> rfl), by first | exact Kd.R_nil _ _ _ _ _ | exact Kd.N_nil _ _ _ _ _ | exact Kd.V_nil _ _ _ _ _ | exact Kd.Q_nil _ _ _ _ _ | exact Kd.S_nil _ _ _ _ _, by repeat (first | (with_reducible first | exact HB.out | apply below_alloc | apply pw_below_drewN | apply below_drew1 | refine below_set ?_ GE373.out | refine below_set ?_ GE374.out | refine below_set ?_ GE375.out) | exact HB.out)⟩

/-! ### spec_GapsWiden: function 40 -/
theorem spec_GapsWiden.mono_l : ∀ k, (∀ y0 y1 y2 y3 y4 y5 y6, LeO (spec_GapsWiden.l0 k y0 y1 y2 y3 y4 y5 y6) (spec_GapsWiden.l0 (k + 1) y0 y1 y2 y3 y4 y5 y6))
  | 0 => fun _ _ _ _ _ _ _ r h => by simp [spec_GapsWiden.l0] at h
  | k + 1 => by
    have ih0 := spec_GapsWiden.mono_l k
    · intro y0 y1 y2 y3 y4 y5 y6
      unfold spec_GapsWiden.l0
      repeat' first
      | (with_reducible exact ih0 _ _ _ _ _ _ _)
      | (with_reducible exact spec_l11Two.mono _ _ _ _ _)
      | (with_reducible exact LeO.refl _)
      | (with_reducible exact LeO.none _)
      | (with_reducible refine LeO.ite ?_ ?_)
      | (with_reducible refine LeO.bind ?_ (fun _ => ?_))
      | exact ih0 _ _ _ _ _ _ _
      | exact spec_l11Two.mono _ _ _ _ _
      | exact LeO.none _
      | refine LeO.ite ?_ ?_
      | refine LeO.bind ?_ (fun _ => ?_)
theorem spec_GapsWiden.mono : ∀ a0 a1 a2 a3 k, LeO (spec_GapsWiden.f k a0 a1 a2 a3) (spec_GapsWiden.f (k + 1) a0 a1 a2 a3) := by
  intro a0 a1 a2 a3 k
  have ih0 := spec_GapsWiden.mono_l k
  unfold spec_GapsWiden.f
  repeat' first
      | (with_reducible exact ih0 _ _ _ _ _ _ _)
      | (with_reducible exact spec_l11Two.mono _ _ _ _ _)
      | (with_reducible exact LeO.refl _)
      | (with_reducible exact LeO.none _)
      | (with_reducible refine LeO.ite ?_ ?_)
      | (with_reducible refine LeO.bind ?_ (fun _ => ?_))
      | exact ih0 _ _ _ _ _ _ _
      | exact spec_l11Two.mono _ _ _ _ _
      | exact LeO.none _
      | refine LeO.ite ?_ ?_
      | refine LeO.bind ?_ (fun _ => ?_)
set_option maxHeartbeats 8000000 in
set_option maxRecDepth 100000 in
theorem spec_GapsWiden.calls (k : Nat) (a0_0 : Int) (A0_1 : Option Addr) (c0_1 : Nat) (l0_1 : List Int) (a1_0 : Int) (A1_1 : Option Addr) (c1_1 : Nat) (l1_1 : List Int) (r1 : Int) (r2 : List Int) (w : World) (hr0_1 : Kd.C (Kd.int .i64) w A0_1 l0_1.length l0_1) (hc0_1 : l0_1.length ≤ c0_1) (hr1_1 : Kd.C (Kd.int .i64) w A1_1 l1_1.length l1_1) (hc1_1 : l1_1.length ≤ c1_1) (h : spec_GapsWiden.f k a0_0 l0_1 a1_0 l1_1 = some (r1, r2)) :
    Calls Try.prog 40 #[.agg #[.int .i64 a0_0, .slice A0_1 l0_1.length c0_1], .agg #[.int .i64 a1_0, .slice A1_1 l1_1.length c1_1]] w fun e w' => ∃ v1_ : Value, e = .returned (.agg #[.int .i64 r1, v1_]) ∧ Kd.R (Kd.int .i64) 3 w' w.heap.size (fun _ => True) v1_ r2 ∧ Below w.heap.size w w' := by
  have hu41 := Try.underlying41
  have HR0_1 := Aside0.mk hr0_1
  have HC0_1 := Aside0.mk hc0_1
  clear hr0_1 hc0_1
  have HR1_1 := Aside0.mk hr1_1
  have HC1_1 := Aside0.mk hc1_1
  clear hr1_1 hc1_1
  have HB := Aside0.mk (Below.refl w.heap.size w)
  have H : ((spec_l11Two.f k a0_0 l0_1 a1_0 l1_1).bind fun t387 => (if t387 = true then (spec_GapsWiden.l0 k 0 a0_0 l0_1 a1_0 l1_1 a0_0 ([] : List Int)) else (some (0, ([] : List Int))))) = some (r1, r2) := h
  clear h
  replace H := Option.bind_eq_some_iff.mp H
  obtain ⟨t387, A30, H⟩ := H
  replace H : (if t387 = true then (spec_GapsWiden.l0 k 0 a0_0 l0_1 a1_0 l1_1 a0_0 ([] : List Int)) else (some (0, ([] : List Int)))) = some (r1, r2) := H
  have A3 := Aside0.mk A30
  clear A30
  by_cases c4 : t387 = true
  · subst c4
    have H1 : (spec_GapsWiden.l0 k 0 a0_0 l0_1 a1_0 l1_1 a0_0 ([] : List Int)) = some (r1, r2) := by rw [if_pos rfl] at H; exact H
    clear H
    have H := H1
    clear H1
    have H' := Aside0.mk H
    clear H
    go_enter Try.func40, Try.ntmps40
    go_wp2_with (first | ((with_reducible refine gate_dst (N := 2) rfl ?_); refine sqx 2 #[.int .i64 a0_0, .slice A0_1 l0_1.length c0_1] 41 ?_; intro gb384 hg w5 hbox hb; have BK384 := Aside0.mk (hbox); have GW384 := sqg HB hg; have GE384 := sqg HB hg; replace HB := sqs HB hb; clear hb hbox hg) | ((with_reducible refine gate_dst (N := 3) rfl ?_); refine sqx 3 #[.int .i64 a1_0, .slice A1_1 l1_1.length c1_1] 41 ?_; intro gb385 hg w6 hbox hb; have BK385 := Aside0.mk (hbox); have GW385 := sqg HB hg; have GE385 := sqg HB hg; have NB384_385 := sqn BK384 hg; have NB385_384 := sqm BK384 hg; replace BK384 := sqb BK384 hb; replace HB := sqs HB hb; clear hb hbox hg) | ((with_reducible refine gate_dst (N := 4) rfl ?_); refine sqx 4 #[.int .i64 0, .slice none 0 0] 41 ?_; intro gb386 hg w7 hbox hb; have BK386 := Aside0.mk (hbox); have GW386 := sqg HB hg; have GE386 := sqg HB hg; have NB384_386 := sqn BK384 hg; have NB386_384 := sqm BK384 hg; have NB385_386 := sqn BK385 hg; have NB386_385 := sqm BK385 hg; replace BK384 := sqb BK384 hb; replace BK385 := sqb BK385 hb; replace HB := sqs HB hb; clear hb hbox hg; have hnb8 := NB384_385.out; have hnc8 := NB385_384.out; have hnb9 := NB384_386.out; have hnc9 := NB386_384.out; obtain ⟨hcz10_0, hcz10_1, hfz10_0, hfz10_1⟩ := sqc2 BK384; have hnb11 := NB385_386.out; have hnc11 := NB386_385.out; obtain ⟨hcz12_0, hcz12_1, hfz12_0, hfz12_1⟩ := sqc2 BK385) | ((with_reducible refine gate_callee (f := 124) rfl ?_); refine sqL (some 10) Try.func124 #[.agg #[.int .i64 a0_0, .slice A0_1 l0_1.length c0_1], .agg #[.int .i64 a1_0, .slice A1_1 l1_1.length c1_1]] ?_; (with_reducible refine (spec_l11Two.calls k a0_0 _ _ l0_1 a1_0 _ _ l1_1 true _ ?side1 ?side2 ?side3 ?side4 A3.out).mono ?_); (case side1 => repeat (first | exact (Kd.C_below HR0_1.out HB.out) | (with_reducible refine Kd.C_alloc ?_ _) | (with_reducible refine Kd.C_drewN ?_ _) | (with_reducible refine Kd.C_drew ?_))); (case side2 => exact HC0_1.out); (case side3 => repeat (first | exact (Kd.C_below HR1_1.out HB.out) | (with_reducible refine Kd.C_alloc ?_ _) | (with_reducible refine Kd.C_drewN ?_ _) | (with_reducible refine Kd.C_drew ?_))); (case side4 => exact HC1_1.out); rintro e w13 ⟨rfl, hb⟩; refine ⟨_, rfl, ?_⟩; replace BK384 := sqb BK384 hb; replace BK385 := sqb BK385 hb; replace BK386 := sqb BK386 hb; replace HB := sqs HB hb; (try clear hb); obtain ⟨hcz14_0, hcz14_1, hfz14_0, hfz14_1⟩ := sqc2 BK384) | ((with_reducible refine gate_dst (N := 5) rfl ?_); refine sqx 5 #[.int .i64 0, .slice none 0 0] 41 ?_; intro gb388 hg w15 hbox hb; have BK388 := Aside0.mk (hbox); have GW388 := sqg HB hg; have GE388 := sqg HB hg; have NB384_388 := sqn BK384 hg; have NB388_384 := sqm BK384 hg; have NB385_388 := sqn BK385 hg; have NB388_385 := sqm BK385 hg; have NB386_388 := sqn BK386 hg; have NB388_386 := sqm BK386 hg; replace BK384 := sqb BK384 hb; replace BK385 := sqb BK385 hb; replace BK386 := sqb BK386 hb; replace HB := sqs HB hb; clear hb hbox hg; have hnb16 := NB388_384.out; have hnc16 := NB384_388.out; have hnb17 := NB388_385.out; have hnc17 := NB385_388.out; have hnb18 := NB388_386.out; have hnc18 := NB386_388.out; obtain ⟨hcz19_0, hcz19_1, hfz19_0, hfz19_1⟩ := sqc2 BK388))
    go_loopg [6] k (fun kq v6 w' => ∃ (x6_1 : Int) (x389001_1 : List Int) (u389001 : Value), v6 = .int .i64 x6_1 ∧ Aside0 (spec_GapsWiden.l0 kq x6_1 a0_0 l0_1 a1_0 l1_1 a0_0 x389001_1 = some (r1, r2)) ∧ Aside0 (kq ≤ k) ∧ Aside0 (Kd.R (Kd.int .i64) 3 w' w.heap.size (fun _ => True) u389001 x389001_1) ∧ Aside0 (w'.heap[gb384]? = some (.cells #[.int .i64 a0_0, (.slice A0_1 l0_1.length c0_1)] 41 (0, 0))) ∧ Aside0 (w'.heap[gb385]? = some (.cells #[.int .i64 a1_0, (.slice A1_1 l1_1.length c1_1)] 41 (0, 0))) ∧ Aside0 (w'.heap[gb386]? = some (.cells #[.int .i64 0, (.slice none 0 0)] 41 (0, 0))) ∧ Aside0 (w'.heap[gb388]? = some (.cells #[.int .i64 a0_0, u389001] 41 (0, 0))) ∧ Aside0 (Below w.heap.size w w'))
    case atStart => exact ⟨(0), (([] : List Int)), (.slice none 0 0), (by first | rfl | (simp; done) | (simp [*]; done)), H', ⟨Nat.le_refl _⟩, ⟨by first | exact Kd.R_nil _ _ _ _ _ | exact Kd.N_nil _ _ _ _ _ | exact Kd.V_nil _ _ _ _ _ | exact Kd.Q_nil _ _ _ _ _ | exact Kd.S_nil _ _ _ _ _⟩, ⟨by refine sqt ?_; refine blk_far ?_ NB384_388.out _; refine sqt ?_; refine blk_far ?_ NB384_388.out _; refine sqt ?_; exact BK384.out⟩, ⟨by refine sqt ?_; refine blk_far ?_ NB385_388.out _; refine sqt ?_; refine blk_far ?_ NB385_388.out _; refine sqt ?_; exact BK385.out⟩, ⟨by refine sqt ?_; refine blk_far ?_ NB386_388.out _; refine sqt ?_; refine blk_far ?_ NB386_388.out _; refine sqt ?_; exact BK386.out⟩, ⟨by refine sqt ?_; refine blk_put (cs := #[.int .i64 a0_0, .slice none 0 0]) ?_ 1 _ rfl; refine sqt ?_; refine blk_put (cs := #[.int .i64 0, .slice none 0 0]) ?_ 0 _ rfl; refine sqt ?_; exact BK388.out⟩, sqh HB⟩
    case round =>
      clear H'
      try clear c1
      try clear p2
      try clear c4
      try clear c8
      try clear c9
      try clear c11
      try clear c12
      try clear c16
      try clear c17
      try clear c18
      try clear hcz10_0
      try clear hcz10_1
      try clear hcz12_0
      try clear hcz12_1
      try clear hcz14_0
      try clear hcz14_1
      try clear hcz19_0
      try clear hcz19_1
      try clear hfz10_0
      try clear hfz10_1
      try clear hfz12_0
      try clear hfz12_1
      try clear hfz14_0
      try clear hfz14_1
      try clear hfz19_0
      try clear hfz19_1
      obtain ⟨x6_1, x389001_1, u389001, rfl, HA, HK1, HO_389001, BK384, BK385, BK386, BK388, HB⟩ := hrel
      cases gk with
      | zero => exact absurd HA.out (by simp [spec_GapsWiden.l0])
      | succ k1 =>
        have H := HA.out
        clear HA
        simp only [spec_GapsWiden.l0] at H
        by_cases c20 : x6_1 < (l0_1.length : Int)
        · rw [if_pos c20] at H
          have c20b0 : decide (x6_1 < (l0_1.length : Int)) = true := decide_eq_true c20
          clear c20
          by_cases c21 : 0 ≤ x6_1
          · rw [if_pos c21] at H
            have c21b0 : decide (0 ≤ x6_1) = true := decide_eq_true c21
            clear c21
            by_cases c22 : x6_1 < (l1_1.length : Int)
            · rw [if_pos c22] at H
              have c22b0 : decide (x6_1 < (l1_1.length : Int)) = true := decide_eq_true c22
              clear c22
              by_cases c23 : (rd l1_1 x6_1) > (rd l0_1 x6_1)
              · rw [if_pos c23] at H
                have c23b0 : decide ((rd l0_1 x6_1) < (rd l1_1 x6_1)) = true := decide_eq_true c23
                clear c23
                by_cases c24 : x389001_1.length < 17592186044416
                · rw [if_pos c24] at H
                  have LMc24 := Aside0.mk c24
                  clear c24
                  obtain ⟨y391, hy391⟩ : ∃ y_ : List Int, y_ = (x389001_1 ++ [1099511627776]) := ⟨_, rfl⟩
                  replace H : (spec_GapsWiden.l0 k1 (wrap64 (x6_1 + 1)) a0_0 l0_1 a1_0 l1_1 a0_0 y391) = some (r1, r2) := by first | (rw [hy391]; with_reducible exact H) | (have H2_ := (Option.bind_some _ _).symm.trans H; rw [hy391]; with_reducible exact H2_) | (have H2_ := (Option.bind_some _ _).symm.trans H; with_reducible exact H2_) | with_reducible exact H | (rw [hy391]; exact H) | exact H
                  have Ny391 := Aside0.mk hy391
                  clear hy391
                  have H' := Aside0.mk H
                  clear H
                  have hnb25 := NB384_385.out
                  have hnc25 := NB385_384.out
                  have hnb26 := NB384_386.out
                  have hnc26 := NB386_384.out
                  have hnb27 := NB384_388.out
                  have hnc27 := NB388_384.out
                  obtain ⟨hcz28_0, hcz28_1, hfz28_0, hfz28_1⟩ := sqc2 BK384
                  have p389 : 0 ≤ (x6_1 : Int) := of_decide_eq_true (by first | (with_reducible assumption) | assumption)
                  have q389 : x6_1 < (l0_1.length : Int) := of_decide_eq_true (by first | (with_reducible assumption) | assumption)
                  obtain ⟨ad389, e389, hx389_0⟩ := Kd.at_int HR0_1.out x6_1 p389 q389
                  cases e389
                  replace hx389_0 := (HB.out.cell (World.block_lt_of_cell? w _ hx389_0)).trans hx389_0
                  replace p389 := eq_true p389
                  replace q389 := eq_true q389
                  have hnb29 := NB385_386.out
                  have hnc29 := NB386_385.out
                  have hnb30 := NB385_388.out
                  have hnc30 := NB388_385.out
                  obtain ⟨hcz31_0, hcz31_1, hfz31_0, hfz31_1⟩ := sqc2 BK385
                  have p390 : 0 ≤ (x6_1 : Int) := of_decide_eq_true (by first | (with_reducible assumption) | assumption)
                  have q390 : x6_1 < (l1_1.length : Int) := of_decide_eq_true (by first | (with_reducible assumption) | assumption)
                  obtain ⟨ad390, e390, hx390_0⟩ := Kd.at_int HR1_1.out x6_1 p390 q390
                  cases e390
                  replace hx390_0 := (HB.out.cell (World.block_lt_of_cell? w _ hx390_0)).trans hx390_0
                  replace p390 := eq_true p390
                  replace q390 := eq_true q390
                  have hnb32 := NB388_386.out
                  have hnc32 := NB386_388.out
                  obtain ⟨hcz33_0, hcz33_1, hfz33_0, hfz33_1⟩ := sqc2 BK388
                  go_wp2_with (first | ((with_reducible refine gate_builtin (b := .append) (xs := #[.tmp 36, .tmp 38]) rfl ?_); at_builtin; refine Kd.R_append (Kd.int .i64) (w0 := w) w.heap.size rfl (.tmp 36) (.tmp 38) 39 3 (.int .i64 0) 8 rfl Try.underlying39 info3 rfl (by decide) (by omega) u389001 x389001_1 1099511627776 [.int .i64 1099511627776] (fun _ => True) (fun _ => False) rfl rfl ?aP (fun _ hk => hk.elim) ?aF ?aO ?aB ?aS ?aL ?_; (case aP => exact rfl); (case aB => exact (by repeat (first | (with_reducible first | exact HB.out | apply below_alloc | apply pw_below_drewN | apply below_drew1 | refine below_set ?_ GE384.out | refine below_set ?_ GE385.out | refine below_set ?_ GE386.out | refine below_set ?_ GE388.out) | exact HB.out))); (case aF => exact (fun _ _ => trivial)); (case aO => exact (by (with_reducible repeat (first | apply Kd.R_alloc | apply Kd.R_drewN | apply Kd.R_drew)); exact HO_389001.out)); (case aS => exact (below_size (by repeat (first | (with_reducible first | exact HB.out | apply below_alloc | apply pw_below_drewN | apply below_drew1 | refine below_set ?_ GE384.out | refine below_set ?_ GE385.out | refine below_set ?_ GE386.out | refine below_set ?_ GE388.out) | exact HB.out)))); (case aL => have := LMc24.out; omega); intro v392 w34 ho hb hg hat; rw [← Ny391.out] at ho; have n0_ := Aside0.mk (blk_grown (g := gb384) (o := .cells #[.int .i64 a0_0, .slice (some ad389) l0_1.length c0_1] 41 (0, 0)) (by refine sqt ?_; exact BK384.out) hg (Kd.R_ne HO_389001.out BK384.out (by decide))); have n1_ := Aside0.mk (blk_grown (g := gb385) (o := .cells #[.int .i64 a1_0, .slice (some ad390) l1_1.length c1_1] 41 (0, 0)) (by refine sqt ?_; exact BK385.out) hg (Kd.R_ne HO_389001.out BK385.out (by decide))); have n2_ := Aside0.mk (blk_grown (g := gb386) (o := .cells #[.int .i64 0, .slice none 0 0] 41 (0, 0)) (by refine sqt ?_; exact BK386.out) hg (Kd.R_ne HO_389001.out BK386.out (by decide))); have n3_ := Aside0.mk (blk_grown (g := gb388) (o := .cells #[.int .i64 a0_0, u389001] 41 (0, 0)) (by refine sqt ?_; exact BK388.out) hg (Kd.R_ne HO_389001.out BK388.out (by decide))); have n4_ := Aside0.mk (hb); have n5_ := Aside0.mk (ho); clear BK384; clear BK385; clear BK386; clear BK388; clear HB; clear HO_389001; have BK384 := n0_; have BK385 := n1_; have BK386 := n2_; have BK388 := n3_; have HB := n4_; have HO393 := n5_; clear n0_ n1_ n2_ n3_ n4_ n5_; clear ho hb hg hat; obtain ⟨Ao35, co35, eo35⟩ := Kd.R_slice HO393.out; subst eo35; obtain ⟨hcz36_0, hcz36_1, hfz36_0, hfz36_1⟩ := sqc2 BK388))
                  go_roundg k1
                  case measure => have := HK1.out; omega
                  case rel => exact ⟨(wrap64 (x6_1 + 1)), (y391), (.slice Ao35 y391.length co35), (by first | rfl | (simp; done) | (simp [*]; done)), H', ⟨by have := HK1.out; omega⟩, ⟨by (with_reducible repeat (first | apply Kd.R_alloc | apply Kd.R_drewN | apply Kd.R_drew)); exact Kd.R_mono (Kd.R_far (p := ⟨gb388, 1, none⟩) (Kd.R_types HO393.out BK388.out (by decide)) (fun _ hk => hk.2) (.slice Ao35 y391.length co35)) (fun _ hk => trivial)⟩, ⟨by refine sqt ?_; refine blk_far ?_ NB384_388.out _; refine sqt ?_; exact BK384.out⟩, ⟨by refine sqt ?_; refine blk_far ?_ NB385_388.out _; refine sqt ?_; exact BK385.out⟩, ⟨by refine sqt ?_; refine blk_far ?_ NB386_388.out _; refine sqt ?_; exact BK386.out⟩, ⟨by refine sqt ?_; refine blk_put (cs := #[.int .i64 a0_0, u389001]) ?_ 1 _ rfl; refine sqt ?_; exact BK388.out⟩, sqh HB⟩
                · rw [if_neg c24] at H
                  exact absurd H (by simp)
              · rw [if_neg c23] at H
                have c23b0 : decide ((rd l0_1 x6_1) < (rd l1_1 x6_1)) = false := decide_eq_false c23
                clear c23
                by_cases c37 : x389001_1.length < 17592186044416
                · rw [if_pos c37] at H
                  have LMc37 := Aside0.mk c37
                  clear c37
                  obtain ⟨y394, hy394⟩ : ∃ y_ : List Int, y_ = (x389001_1 ++ [rd l0_1 x6_1]) := ⟨_, rfl⟩
                  replace H : (spec_GapsWiden.l0 k1 (wrap64 (x6_1 + 1)) a0_0 l0_1 a1_0 l1_1 a0_0 y394) = some (r1, r2) := by first | (rw [hy394]; with_reducible exact H) | (have H2_ := (Option.bind_some _ _).symm.trans H; rw [hy394]; with_reducible exact H2_) | (have H2_ := (Option.bind_some _ _).symm.trans H; with_reducible exact H2_) | with_reducible exact H | (rw [hy394]; exact H) | exact H
                  have Ny394 := Aside0.mk hy394
                  clear hy394
                  have H' := Aside0.mk H
                  clear H
                  have hnb38 := NB384_385.out
                  have hnc38 := NB385_384.out
                  have hnb39 := NB384_386.out
                  have hnc39 := NB386_384.out
                  have hnb40 := NB384_388.out
                  have hnc40 := NB388_384.out
                  obtain ⟨hcz41_0, hcz41_1, hfz41_0, hfz41_1⟩ := sqc2 BK384
                  have p389 : 0 ≤ (x6_1 : Int) := of_decide_eq_true (by first | (with_reducible assumption) | assumption)
                  have q389 : x6_1 < (l0_1.length : Int) := of_decide_eq_true (by first | (with_reducible assumption) | assumption)
                  obtain ⟨ad389, e389, hx389_0⟩ := Kd.at_int HR0_1.out x6_1 p389 q389
                  cases e389
                  replace hx389_0 := (HB.out.cell (World.block_lt_of_cell? w _ hx389_0)).trans hx389_0
                  replace p389 := eq_true p389
                  replace q389 := eq_true q389
                  have hnb42 := NB385_386.out
                  have hnc42 := NB386_385.out
                  have hnb43 := NB385_388.out
                  have hnc43 := NB388_385.out
                  obtain ⟨hcz44_0, hcz44_1, hfz44_0, hfz44_1⟩ := sqc2 BK385
                  have p390 : 0 ≤ (x6_1 : Int) := of_decide_eq_true (by first | (with_reducible assumption) | assumption)
                  have q390 : x6_1 < (l1_1.length : Int) := of_decide_eq_true (by first | (with_reducible assumption) | assumption)
                  obtain ⟨ad390, e390, hx390_0⟩ := Kd.at_int HR1_1.out x6_1 p390 q390
                  cases e390
                  replace hx390_0 := (HB.out.cell (World.block_lt_of_cell? w _ hx390_0)).trans hx390_0
                  replace p390 := eq_true p390
                  replace q390 := eq_true q390
                  have hnb45 := NB388_386.out
                  have hnc45 := NB386_388.out
                  obtain ⟨hcz46_0, hcz46_1, hfz46_0, hfz46_1⟩ := sqc2 BK388
                  go_wp2_with (first | ((with_reducible refine gate_builtin (b := .append) (xs := #[.tmp 36, .tmp 38]) rfl ?_); at_builtin; refine Kd.R_append (Kd.int .i64) (w0 := w) w.heap.size rfl (.tmp 36) (.tmp 38) 39 3 (.int .i64 0) 8 rfl Try.underlying39 info3 rfl (by decide) (by omega) u389001 x389001_1 (rd l0_1 x6_1) [.int .i64 (rd l0_1 x6_1)] (fun _ => True) (fun _ => False) rfl rfl ?aP (fun _ hk => hk.elim) ?aF ?aO ?aB ?aS ?aL ?_; (case aP => exact rfl); (case aB => exact (by repeat (first | (with_reducible first | exact HB.out | apply below_alloc | apply pw_below_drewN | apply below_drew1 | refine below_set ?_ GE384.out | refine below_set ?_ GE385.out | refine below_set ?_ GE386.out | refine below_set ?_ GE388.out) | exact HB.out))); (case aF => exact (fun _ _ => trivial)); (case aO => exact (by (with_reducible repeat (first | apply Kd.R_alloc | apply Kd.R_drewN | apply Kd.R_drew)); exact HO_389001.out)); (case aS => exact (below_size (by repeat (first | (with_reducible first | exact HB.out | apply below_alloc | apply pw_below_drewN | apply below_drew1 | refine below_set ?_ GE384.out | refine below_set ?_ GE385.out | refine below_set ?_ GE386.out | refine below_set ?_ GE388.out) | exact HB.out)))); (case aL => have := LMc37.out; omega); intro v395 w47 ho hb hg hat; rw [← Ny394.out] at ho; have n0_ := Aside0.mk (blk_grown (g := gb384) (o := .cells #[.int .i64 a0_0, .slice (some ad389) l0_1.length c0_1] 41 (0, 0)) (by refine sqt ?_; exact BK384.out) hg (Kd.R_ne HO_389001.out BK384.out (by decide))); have n1_ := Aside0.mk (blk_grown (g := gb385) (o := .cells #[.int .i64 a1_0, .slice (some ad390) l1_1.length c1_1] 41 (0, 0)) (by refine sqt ?_; exact BK385.out) hg (Kd.R_ne HO_389001.out BK385.out (by decide))); have n2_ := Aside0.mk (blk_grown (g := gb386) (o := .cells #[.int .i64 0, .slice none 0 0] 41 (0, 0)) (by refine sqt ?_; exact BK386.out) hg (Kd.R_ne HO_389001.out BK386.out (by decide))); have n3_ := Aside0.mk (blk_grown (g := gb388) (o := .cells #[.int .i64 a0_0, u389001] 41 (0, 0)) (by refine sqt ?_; exact BK388.out) hg (Kd.R_ne HO_389001.out BK388.out (by decide))); have n4_ := Aside0.mk (hb); have n5_ := Aside0.mk (ho); clear BK384; clear BK385; clear BK386; clear BK388; clear HB; clear HO_389001; have BK384 := n0_; have BK385 := n1_; have BK386 := n2_; have BK388 := n3_; have HB := n4_; have HO396 := n5_; clear n0_ n1_ n2_ n3_ n4_ n5_; clear ho hb hg hat; obtain ⟨Ao48, co48, eo48⟩ := Kd.R_slice HO396.out; subst eo48; obtain ⟨hcz49_0, hcz49_1, hfz49_0, hfz49_1⟩ := sqc2 BK388))
                  go_roundg k1
                  case measure => have := HK1.out; omega
                  case rel => exact ⟨(wrap64 (x6_1 + 1)), (y394), (.slice Ao48 y394.length co48), (by first | rfl | (simp; done) | (simp [*]; done)), H', ⟨by have := HK1.out; omega⟩, ⟨by (with_reducible repeat (first | apply Kd.R_alloc | apply Kd.R_drewN | apply Kd.R_drew)); exact Kd.R_mono (Kd.R_far (p := ⟨gb388, 1, none⟩) (Kd.R_types HO396.out BK388.out (by decide)) (fun _ hk => hk.2) (.slice Ao48 y394.length co48)) (fun _ hk => trivial)⟩, ⟨by refine sqt ?_; refine blk_far ?_ NB384_388.out _; refine sqt ?_; exact BK384.out⟩, ⟨by refine sqt ?_; refine blk_far ?_ NB385_388.out _; refine sqt ?_; exact BK385.out⟩, ⟨by refine sqt ?_; refine blk_far ?_ NB386_388.out _; refine sqt ?_; exact BK386.out⟩, ⟨by refine sqt ?_; refine blk_put (cs := #[.int .i64 a0_0, u389001]) ?_ 1 _ rfl; refine sqt ?_; exact BK388.out⟩, sqh HB⟩
                · rw [if_neg c37] at H
                  exact absurd H (by simp)
            · rw [if_neg c22] at H
              exact absurd H (by simp)
          · rw [if_neg c21] at H
            exact absurd H (by simp)
        · rw [if_neg c20] at H
          have c20b0 : decide (x6_1 < (l0_1.length : Int)) = false := decide_eq_false c20
          clear c20
          simp only [Option.some.injEq, Prod.mk.injEq] at H
          obtain ⟨rfl, rfl⟩ := H
          have hnb50 := NB384_385.out
          have hnc50 := NB385_384.out
          have hnb51 := NB384_386.out
          have hnc51 := NB386_384.out
          have hnb52 := NB384_388.out
          have hnc52 := NB388_384.out
          obtain ⟨hcz53_0, hcz53_1, hfz53_0, hfz53_1⟩ := sqc2 BK384
          have hnb54 := NB388_385.out
          have hnc54 := NB385_388.out
          have hnb55 := NB388_386.out
          have hnc55 := NB386_388.out
          obtain ⟨hcz56_0, hcz56_1, hfz56_0, hfz56_1⟩ := sqc2 BK388
          have hnb57 := NB386_385.out
          have hnc57 := NB385_386.out
          obtain ⟨hcz58_0, hcz58_1, hfz58_0, hfz58_1⟩ := sqc2 BK386
          obtain ⟨Ao59, co59, eo59⟩ := Kd.R_slice HO_389001.out
          subst eo59
          go_wp2
          refine bodyPost_ret (results_cell_row rfl _ _ gb386 41 #[.int .i64 a0_0, .slice Ao59 x389001_1.length co59] (0, 0) _ rfl (by refine sqt ?_; refine blk_put (cs := #[.int .i64 a0_0, .slice none 0 0]) ?_ 1 _ rfl; refine sqt ?_; refine blk_put (cs := #[.int .i64 0, .slice none 0 0]) ?_ 0 _ rfl; refine sqt ?_; exact BK386.out) Try.underlying41 rfl (by kernel_rfl)) rfl ?_
          exact ⟨_, by first | rfl | (simp [errW_none, errW_some] <;> rfl) | (simp [*, errW_none, errW_some] <;> rfl), by (with_reducible repeat (first | apply Kd.R_alloc | apply Kd.R_drewN | apply Kd.R_drew)); exact Kd.R_mono (Kd.R_far (p := ⟨gb386, 1, none⟩) (Kd.R_far (p := ⟨gb386, 0, none⟩) (Kd.R_types HO_389001.out BK386.out (by decide)) (fun _ hk => hk.2) (.int .i64 a0_0)) (fun _ hk => hk.2) (.slice Ao59 x389001_1.length co59)) (fun _ hk => trivial), by repeat (first | (with_reducible first | exact HB.out | apply below_alloc | apply pw_below_drewN | apply below_drew1 | refine below_set ?_ GE384.out | refine below_set ?_ GE385.out | refine below_set ?_ GE386.out | refine below_set ?_ GE388.out) | exact HB.out)⟩
  · replace c4 := Bool.eq_false_iff.mpr c4
    subst c4
    have H1 : (some (0, ([] : List Int))) = some (r1, r2) := by rw [if_neg (show ¬ (false = true) by decide)] at H; exact H
    clear H
    have H := H1
    clear H1
    simp only [Option.some.injEq, Prod.mk.injEq] at H
    obtain ⟨rfl, rfl⟩ := H
    go_enter Try.func40, Try.ntmps40
    go_wp2_with (first | ((with_reducible refine gate_dst (N := 2) rfl ?_); refine sqx 2 #[.int .i64 a0_0, .slice A0_1 l0_1.length c0_1] 41 ?_; intro gb384 hg w60 hbox hb; have BK384 := Aside0.mk (hbox); have GW384 := sqg HB hg; have GE384 := sqg HB hg; replace HB := sqs HB hb; clear hb hbox hg) | ((with_reducible refine gate_dst (N := 3) rfl ?_); refine sqx 3 #[.int .i64 a1_0, .slice A1_1 l1_1.length c1_1] 41 ?_; intro gb385 hg w61 hbox hb; have BK385 := Aside0.mk (hbox); have GW385 := sqg HB hg; have GE385 := sqg HB hg; have NB384_385 := sqn BK384 hg; have NB385_384 := sqm BK384 hg; replace BK384 := sqb BK384 hb; replace HB := sqs HB hb; clear hb hbox hg) | ((with_reducible refine gate_dst (N := 4) rfl ?_); refine sqx 4 #[.int .i64 0, .slice none 0 0] 41 ?_; intro gb386 hg w62 hbox hb; have BK386 := Aside0.mk (hbox); have GW386 := sqg HB hg; have GE386 := sqg HB hg; have NB384_386 := sqn BK384 hg; have NB386_384 := sqm BK384 hg; have NB385_386 := sqn BK385 hg; have NB386_385 := sqm BK385 hg; replace BK384 := sqb BK384 hb; replace BK385 := sqb BK385 hb; replace HB := sqs HB hb; clear hb hbox hg; have hnb63 := NB384_385.out; have hnc63 := NB385_384.out; have hnb64 := NB384_386.out; have hnc64 := NB386_384.out; obtain ⟨hcz65_0, hcz65_1, hfz65_0, hfz65_1⟩ := sqc2 BK384; have hnb66 := NB385_386.out; have hnc66 := NB386_385.out; obtain ⟨hcz67_0, hcz67_1, hfz67_0, hfz67_1⟩ := sqc2 BK385) | ((with_reducible refine gate_callee (f := 124) rfl ?_); refine sqL (some 10) Try.func124 #[.agg #[.int .i64 a0_0, .slice A0_1 l0_1.length c0_1], .agg #[.int .i64 a1_0, .slice A1_1 l1_1.length c1_1]] ?_; (with_reducible refine (spec_l11Two.calls k a0_0 _ _ l0_1 a1_0 _ _ l1_1 false _ ?side1 ?side2 ?side3 ?side4 A3.out).mono ?_); (case side1 => repeat (first | exact (Kd.C_below HR0_1.out HB.out) | (with_reducible refine Kd.C_alloc ?_ _) | (with_reducible refine Kd.C_drewN ?_ _) | (with_reducible refine Kd.C_drew ?_))); (case side2 => exact HC0_1.out); (case side3 => repeat (first | exact (Kd.C_below HR1_1.out HB.out) | (with_reducible refine Kd.C_alloc ?_ _) | (with_reducible refine Kd.C_drewN ?_ _) | (with_reducible refine Kd.C_drew ?_))); (case side4 => exact HC1_1.out); rintro e w68 ⟨rfl, hb⟩; refine ⟨_, rfl, ?_⟩; replace BK384 := sqb BK384 hb; replace BK385 := sqb BK385 hb; replace BK386 := sqb BK386 hb; replace HB := sqs HB hb; (try clear hb); obtain ⟨hcz69_0, hcz69_1, hfz69_0, hfz69_1⟩ := sqc2 BK386))
    refine bodyPost_ret (results_cell_row rfl _ _ gb386 41 #[.int .i64 0, .slice none 0 0] (0, 0) _ rfl (by refine sqt ?_; refine blk_put (cs := #[.int .i64 0, .slice none 0 0]) ?_ 1 _ rfl; refine sqt ?_; refine blk_put (cs := #[.int .i64 0, .slice none 0 0]) ?_ 0 _ rfl; refine sqt ?_; exact BK386.out) Try.underlying41 rfl (by kernel_rfl)) rfl ?_
    exact ⟨_, by first | rfl | (simp [errW_none, errW_some] <;> rfl) | (simp [*, errW_none, errW_some] <;> rfl), by first | exact Kd.R_nil _ _ _ _ _ | exact Kd.N_nil _ _ _ _ _ | exact Kd.V_nil _ _ _ _ _ | exact Kd.Q_nil _ _ _ _ _ | exact Kd.S_nil _ _ _ _ _, by repeat (first | (with_reducible first | exact HB.out | apply below_alloc | apply pw_below_drewN | apply below_drew1 | refine below_set ?_ GE384.out | refine below_set ?_ GE385.out | refine below_set ?_ GE386.out) | exact HB.out)⟩

end Go.Proofs.Ytkekcenlleebeaa.PFnGapsJoin
