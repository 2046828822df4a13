/- Functions of the program as plain Lean functions, and that calls of them come to what these tell. Conditions: those in each law. -/
import Derived.Test.YtkekcenlleebeaaSq
import Derived.Test.YtkekcenlleebeaaDFnGapsDo
import Derived.Test.YtkekcenlleebeaaQFnGapsDox0
import Derived.Test.YtkekcenlleebeaaQFnGapsDox3
import Derived.Test.YtkekcenlleebeaaQFnGapsDox8
namespace Go.Proofs.Ytkekcenlleebeaa.PFnGapsDo
open Go.RowKit Go.Proofs.Ytkekcenlleebeaa.Sq Go.Proofs.YtkekcenlleebeaaW.PrintWords Go.Proofs.YtkekcenlleebeaaW.PrintLast Go.Proofs.YtkekcenlleebeaaW.PrintMore
attribute [local go_sem] max2_int min2_int max_two min_two max_three min_three max_four min_four   -- for this text's walks alone
set_option linter.unusedVariables false
set_option linter.unusedSimpArgs false

/-! ### spec_l11Copy: function 113 -/
def spec_l11Copy.T5 : Bool × List (List Nat × List Nat) := (true, [([], []), ([0], [0]), ([], []), ([2], [2]), ([], []), ([3, 4], [3, 4]), ([5], [5]), ([6], [6]), ([1, 7], [1, 7]), ([0, 1, 2, 3, 4, 5, 6, 7, 8], []), ([9, 8, 8, 0, 1, 2, 3, 4, 5, 6, 7, 8], [8, 9])])
def spec_l11Copy.B5 : List Nat := [0, 1, 0, 4, 0, 28, 60, 124, 255, 511, 1023]
theorem spec_l11Copy.tab5 : rtab .any (opsOf Try.f113 5) = spec_l11Copy.T5 := by kernel_rfl
theorem spec_l11Copy.bits5 : waitsOk spec_l11Copy.T5.2 spec_l11Copy.B5 = true := by kernel_rfl
set_option maxHeartbeats 8000000 in
set_option maxRecDepth 100000 in
theorem spec_l11Copy.calls (k : Nat) (a0_0 : Int) (A0_1 : Option Addr) (c0_1 : Nat) (l0_1 : List Int) (r1 : Int) (r2 : List Int) (w : World) (hr0_1 : Kd.C (Kd.int .i64) w A0_1 l0_1.length l0_1) (hc0_1 : l0_1.length ≤ c0_1) (h : spec_l11Copy.f k a0_0 l0_1 = some (r1, r2)) :
  Calls Try.prog 113 #[.agg #[.int .i64 a0_0, .slice A0_1 l0_1.length c0_1]] w fun e w' => ∃ v1_ : Value, e = .returned (.agg #[.int .i64 r1, v1_]) ∧ Kd.R (Kd.int .i64) 3 w' w.heap.size (fun _ => True) v1_ r2 ∧ Below w.heap.size w w' := by
 have hu41 := Try.underlying41
 have HR0_1 := Aside0.mk hr0_1
 have HC0_1 := Aside0.mk hc0_1
 clear hr0_1 hc0_1
 have HB := Aside0.mk (Below.refl w.heap.size w)
 have H : (spec_l11Copy.l0 k 0 a0_0 l0_1 a0_0 ([] : List Int)) = some (r1, r2) := h
 clear h
 have H' := Aside0.mk H
 clear H
 go_enter Try.func113, Try.ntmps113
 go_wp2_with (first | ((with_reducible refine gate_dst (N := 1) rfl ?_); refine sqx 1 #[.int .i64 a0_0, .slice A0_1 l0_1.length c0_1] 41 ?_; intro gb311 hg w2 hbox hb; have BK311 := Aside0.mk hbox; have GW311 := sqg HB hg; have GE311 := sqg HB hg; replace HB := sqs HB hb; clear hb hbox hg) | ((with_reducible refine gate_dst (N := 2) rfl ?_); refine sqx 2 #[.int .i64 0, .slice none 0 0] 41 ?_; intro gb312 hg w3 hbox hb; have BK312 := Aside0.mk hbox; have GW312 := sqg HB hg; have GE312 := sqg HB hg; have NB311_312 := sqn BK311 hg; have NB312_311 := sqm BK311 hg; replace BK311 := sqb BK311 hb; replace HB := sqs HB hb; clear hb hbox hg; have hnb4 := NB311_312.out; have hnc4 := NB312_311.out; obtain ⟨hcz5_0, hcz5_1, hfz5_0, hfz5_1⟩ := sqc2 BK311) | ((with_reducible refine gate_dst (N := 3) rfl ?_); refine sqx 3 #[.int .i64 0, .slice none 0 0] 41 ?_; intro gb313 hg w6 hbox hb; have BK313 := Aside0.mk hbox; have GW313 := sqg HB hg; have GE313 := sqg HB hg; have NB311_313 := sqn BK311 hg; have NB313_311 := sqm BK311 hg; have NB312_313 := sqn BK312 hg; have NB313_312 := sqm BK312 hg; refine sqM2 BK311 BK312 hb ?_; clear BK311 BK312; intro BK311 BK312; replace HB := sqs HB hb; clear hb hbox hg; have hnb7 := NB313_311.out; have hnc7 := NB311_313.out; have hnb8 := NB313_312.out; have hnc8 := NB312_313.out; obtain ⟨hcz9_0, hcz9_1, hfz9_0, hfz9_1⟩ := sqc2 BK313))
 go_loopg [4] k (fun kq v4 w' => ∃ (x4_1 : Int) (x314001_1 : List Int) (u314001 : Value), v4 = .int .i64 x4_1 ∧ Aside0 (spec_l11Copy.l0 kq x4_1 a0_0 l0_1 a0_0 x314001_1 = some (r1, r2)) ∧ Aside0 (kq ≤ k) ∧ Aside0 (Kd.R (Kd.int .i64) 3 w' w.heap.size (fun _ => True) u314001 x314001_1) ∧ Aside0 (w'.heap[gb311]? = some (.cells #[.int .i64 a0_0, (.slice A0_1 l0_1.length c0_1)] 41 (0, 0))) ∧ Aside0 (w'.heap[gb312]? = some (.cells #[.int .i64 0, (.slice none 0 0)] 41 (0, 0))) ∧ Aside0 (w'.heap[gb313]? = some (.cells #[.int .i64 a0_0, u314001] 41 (0, 0))) ∧ Aside0 (Below w.heap.size w w'))
 case atStart => exact ⟨(0), (([] : List Int)), (.slice none 0 0), (by first | rfl | (simp; done) | (simp [*]; done)), H', ⟨Nat.le_refl _⟩, ⟨by first | exact Kd.R_nil _ _ _ _ _ | exact Kd.N_nil _ _ _ _ _ | exact Kd.V_nil _ _ _ _ _ | exact Kd.Q_nil _ _ _ _ _ | exact Kd.S_nil _ _ _ _ _⟩, ⟨by refine sqt ?_; refine blk_far ?_ NB311_313.out _; refine sqt ?_; refine blk_far ?_ NB311_313.out _; refine sqt ?_; exact BK311.out⟩, ⟨by refine sqt ?_; refine blk_far ?_ NB312_313.out _; refine sqt ?_; refine blk_far ?_ NB312_313.out _; refine sqt ?_; exact BK312.out⟩, ⟨by refine sqt ?_; refine blk_put (cs := #[.int .i64 a0_0, .slice none 0 0]) ?_ 1 _ rfl; refine sqt ?_; refine blk_put (cs := #[.int .i64 0, .slice none 0 0]) ?_ 0 _ rfl; refine sqt ?_; exact BK313.out⟩, sqh HB⟩
 case round =>
  clear H'
  obtain ⟨x4_1, x314001_1, u314001, rfl, HA, HK1, HO_314001, BK311, BK312, BK313, HB⟩ := hrel
  cases gk with
  | zero => exact absurd HA.out (by simp [spec_l11Copy.l0])
  | succ k1 =>
   have H := HA.out
   clear HA
   simp only [spec_l11Copy.l0] at H
   replace H := sqi H
   rcases H with ⟨c10, H⟩ | ⟨c10, H⟩
   ·have c10b0 := decide_eq_false c10
    clear c10
    simp only [Option.some.injEq, Prod.mk.injEq] at H
    obtain ⟨rfl, rfl⟩ := H
    have hnb20 := NB311_312.out
    have hnc20 := NB312_311.out
    have hnb21 := NB311_313.out
    have hnc21 := NB313_311.out
    obtain ⟨hcz22_0, hcz22_1, hfz22_0, hfz22_1⟩ := sqc2 BK311
    have hnb23 := NB313_312.out
    have hnc23 := NB312_313.out
    obtain ⟨hcz24_0, hcz24_1, hfz24_0, hfz24_1⟩ := sqc2 BK313
    obtain ⟨hcz25_0, hcz25_1, hfz25_0, hfz25_1⟩ := sqc2 BK312
    obtain ⟨Ao26, co26, eo26⟩ := Kd.R_slice HO_314001.out
    subst eo26
    go_wp2
    refine bodyPost_ret (results_cell_row rfl _ _ gb312 41 #[.int .i64 a0_0, .slice Ao26 x314001_1.length co26] (0, 0) _ rfl (by refine sqt ?_; refine blk_put (cs := #[.int .i64 a0_0, .slice none 0 0]) ?_ 1 _ rfl; refine sqt ?_; refine blk_put (cs := #[.int .i64 0, .slice none 0 0]) ?_ 0 _ rfl; refine sqt ?_; exact BK312.out) Try.underlying41 rfl (by kernel_rfl)) rfl ?_
    exact ⟨_, by first | rfl | (simp [errW_none, errW_some] <;> rfl) | (simp [*, errW_none, errW_some] <;> rfl), by (with_reducible repeat (first | apply Kd.R_alloc | apply Kd.R_drewN | apply Kd.R_drew)); exact Kd.R_mono (Kd.R_far (p := ⟨gb312, 1, none⟩) (Kd.R_far (p := ⟨gb312, 0, none⟩) (Kd.R_types HO_314001.out BK312.out (by decide)) (fun _ hk => hk.2) (.int .i64 a0_0)) (fun _ hk => hk.2) (.slice Ao26 x314001_1.length co26)) (fun _ hk => trivial), by repeat (first | (with_reducible first | exact HB.out | apply below_alloc | apply pw_below_drewN | apply below_drew1 | refine below_set ?_ GE311.out | refine below_set ?_ GE312.out | refine below_set ?_ GE313.out) | exact HB.out)⟩
   have c10b0 := decide_eq_true c10
   clear c10
   replace H := sqi H
   rcases H with ⟨c11, H⟩ | ⟨c11, H⟩
   ·exact absurd H (by simp)
   have c11b0 := decide_eq_true c11
   clear c11
   replace H := sqi H
   rcases H with ⟨c12, H⟩ | ⟨c12, H⟩
   ·exact absurd H (by simp)
   have LMc12 := Aside0.mk c12
   clear c12
   obtain ⟨y315, hy315⟩ : ∃ y_ : List Int, y_ = (x314001_1 ++ [rd l0_1 x4_1]) := ⟨_, rfl⟩
   replace H : (spec_l11Copy.l0 k1 (wrap64 (x4_1 + 1)) a0_0 l0_1 a0_0 y315) = some (r1, r2) := by first | (rw [hy315]; with_reducible exact H) | (have H2_ := (Option.bind_some _ _).symm.trans H; rw [hy315]; with_reducible exact H2_) | (have H2_ := (Option.bind_some _ _).symm.trans H; with_reducible exact H2_) | with_reducible exact H | (rw [hy315]; exact H) | exact H
   have Ny315 := Aside0.mk hy315
   clear hy315
   have H' := Aside0.mk H
   clear H
   have hnb13 := NB311_312.out
   have hnc13 := NB312_311.out
   have hnb14 := NB311_313.out
   have hnc14 := NB313_311.out
   obtain ⟨hcz15_0, hcz15_1, hfz15_0, hfz15_1⟩ := sqc2 BK311
   try go_wp2
   replace HO_314001 := Aside0.mk (Kd.R_drew HO_314001.out)
   replace BK311 := Aside0.mk (blk_drew BK311.out)
   replace BK312 := Aside0.mk (blk_drew BK312.out)
   replace BK313 := Aside0.mk (blk_drew BK313.out)
   replace HB := Aside0.mk (below_drew1 HB.out)
   have p314 : 0 ≤ (x4_1 : Int) := sqd
   have q314 : x4_1 < (l0_1.length : Int) := sqd
   obtain ⟨ad314, e314, hx314_0⟩ := Kd.at_int HR0_1.out x4_1 p314 q314
   have hw314_0 := hx314_0
   cases e314
   replace hx314_0 := sqa HB hx314_0
   replace p314 := eq_true p314
   replace q314 := eq_true q314
   refine start_ (n := 11) (S := fun w' => w'.cell? ⟨gb313, 0, none⟩ = some (.int .i64 a0_0) ∧ w'.cell? ⟨gb313, 1, none⟩ = some (u314001) ∧ w'.cell? ⟨gb311, 0, none⟩ = some (.int .i64 a0_0) ∧ w'.cell? ⟨gb311, 1, none⟩ = some (.slice (some ad314) l0_1.length c0_1) ∧ w'.cell? (ad314.add (x4_1).toNat) = some (.int .i64 (rd l0_1 x4_1))) (ds := [10]) #[false, false, false, false, false, false, false, false, false, false, false] (by kernel_rfl) rfl rfl ⟨(blk_cell BK313.out 0).trans rfl, (blk_cell BK313.out 1).trans rfl, (blk_cell BK311.out 0).trans rfl, (blk_cell BK311.out 1).trans rfl, (sqa HB hw314_0 :)⟩ (fun hHeld => ?_); refine with_tabW spec_l11Copy.tab5 spec_l11Copy.bits5 (fun HT_ HW_ => ?_)
   generalize wr.drew = w16 at HO_314001 BK311 BK312 BK313 HB hx314_0 hHeld ⊢
   refine sqp HT_ 0 15 ?_
   refine sqp HT_ 2 17 ?_
   refine sqp HT_ 4 19 ?_
   refine sqw HT_ HW_ 1 16 hHeld ?_
   refine sqw HT_ HW_ 3 18 hHeld ?_
   refine sqp HT_ 5 20 ?_
   refine sqw HT_ HW_ 6 21 hHeld ?_
   refine sqo HT_ 7 22 (fun K hK => ?_)
   refine value_ (w1 := ?_) (v := ?_) (by rfl) rfl ?_ ?_
   rotate_left 2
   ·go_simp
    constructor
    ·rfl
    ·rfl
   refine hK.out _ _ ⟨(blk_cell (blk_alloc BK313.out _) 0).trans rfl, (blk_cell (blk_alloc BK313.out _) 1).trans rfl, (blk_cell (blk_alloc BK311.out _) 0).trans rfl, (blk_cell (blk_alloc BK311.out _) 1).trans rfl, (World.cell?_alloc_lt _ _ _ (World.block_lt_of_cell? _ _ ((sqa HB hw314_0 :)))).trans ((sqa HB hw314_0 :))⟩ (fun hHeld => ?_)
   clear hK K
   refine sqnm ?_
   refine sqo HT_ 8 23 (fun K hK => ?_)
   refine Kd.R_append_step (Kd.int .i64) (w0 := w) w.heap.size (by rfl) (.tmp 16) (.tmp 22) 39 3 (.int .i64 0) 8 rfl Try.underlying39 info3 rfl (by decide) (by omega) u314001 x314001_1 (rd l0_1 x4_1) [.int .i64 (rd l0_1 x4_1)] (fun _ => True) (fun _ => False) rfl rfl ?aP (fun _ hk => hk.elim) ?aF ?aO ?aB ?aS ?aL ?_
   (case aP => exact rfl)
   (case aB => exact (sqB HB))
   (case aF => exact (fun _ _ => trivial))
   (case aO => exact (sqy HO_314001.out))
   (case aS => exact (below_size (sqB HB)))
   (case aL => have := LMc12.out; omega)
   intro v316 w17 ho hb hg hat
   rw [← Ny315.out] at ho
   have n0_ := Aside0.mk (blk_grown (g := gb311) (o := .cells #[.int .i64 a0_0, .slice (some ad314) l0_1.length c0_1] 41 (0, 0)) (sqt BK311.out) hg (Kd.R_ne HO_314001.out BK311.out (by decide)))
   have n1_ := Aside0.mk (blk_grown (g := gb312) (o := .cells #[.int .i64 0, .slice none 0 0] 41 (0, 0)) (sqt BK312.out) hg (Kd.R_ne HO_314001.out BK312.out (by decide)))
   have n2_ := Aside0.mk (blk_grown (g := gb313) (o := .cells #[.int .i64 a0_0, u314001] 41 (0, 0)) (sqt BK313.out) hg (Kd.R_ne HO_314001.out BK313.out (by decide)))
   have n3_ := Aside0.mk (hb)
   have n4_ := Aside0.mk (ho)
   clear BK311
   clear BK312
   clear BK313
   clear HB
   clear HO_314001
   have BK311 := n0_
   have BK312 := n1_
   have BK313 := n2_
   have HB := n3_
   have HO317 := n4_
   clear n0_ n1_ n2_ n3_ n4_
   clear ho hb hg hat
   obtain ⟨Ao18, co18, eo18⟩ := Kd.R_slice HO317.out
   (first | subst eo18 | (injection eo18 with f1_ f2_ f3_; have f4_ := f1_.symm; have f5_ := f3_.symm; clear f1_ f2_ f3_; subst f4_; subst f5_))
   refine hK.out _ _ ⟨(blk_cell BK313.out 0).trans rfl, (blk_cell BK313.out 1).trans rfl, (blk_cell BK311.out 0).trans rfl, (blk_cell BK311.out 1).trans rfl, (sqa HB hw314_0 :)⟩ (fun hHeld => ?_)
   clear hK K
   refine sqnm ?_
   refine sqp HT_ 9 24 ?_
   refine last_ (i := 10) (N := none) #[true, true, true, true, true, true, true, true, true, true, true] rfl rfl (one_of HT_.out (by kernel_rfl)) (by decide) (fun K hK => ?_)
   have hs19 : w17.cell? ⟨gb313, 1, none⟩ = some (u314001) := (blk_cell BK313.out 1).trans rfl
   have hfs19 := blk_frozen BK313.out 1
   have hns19_0 := NB311_313.out
   have hns19_1 := NB312_313.out
   have hms19_0 := NB313_311.out
   have hms19_1 := NB313_312.out
   refine skip_ (w1 := ?_) (by rfl) rfl ?_ ?_
   rotate_left
   ·go_simp
    rfl
   refine hK.out _ _ ?_
   clear hK K
   refine done_ (done_of HT_.out (by kernel_rfl)) ?_
   try go_wp2
   go_roundg k1
   case measure => have := HK1.out; omega
   case rel => exact ⟨(wrap64 (x4_1 + 1)), (y315), (.slice Ao18 y315.length co18), (by first | rfl | (simp; done) | (simp [*]; done)), H', ⟨by have := HK1.out; omega⟩, ⟨by (with_reducible repeat (first | apply Kd.R_alloc | apply Kd.R_drewN | apply Kd.R_drew)); exact Kd.R_mono (Kd.R_far (p := ⟨gb313, 1, none⟩) (Kd.R_types HO317.out BK313.out (by decide)) (fun _ hk => hk.2) (.slice Ao18 y315.length co18)) (fun _ hk => trivial)⟩, ⟨by refine sqt ?_; refine blk_far ?_ NB311_313.out _; refine sqt ?_; exact BK311.out⟩, ⟨by refine sqt ?_; refine blk_far ?_ NB312_313.out _; refine sqt ?_; exact BK312.out⟩, ⟨by refine sqt ?_; refine blk_put (cs := #[.int .i64 a0_0, u314001]) ?_ 1 _ rfl; refine sqt ?_; exact BK313.out⟩, sqh HB⟩

/-! ### spec_GapsForget: function 51 -/
set_option maxHeartbeats 8000000 in
set_option maxRecDepth 100000 in
theorem spec_GapsForget.calls (k : Nat) (a0_0 : Int) (A0_1 : Option Addr) (c0_1 : Nat) (l0_1 : List Int) (a1 : Int) (r1 : Int) (r2 : List Int) (w : World) (hr0_1 : Kd.C (Kd.int .i64) w A0_1 l0_1.length l0_1) (hc0_1 : l0_1.length ≤ c0_1) (h : spec_GapsForget.f k a0_0 l0_1 a1 = some (r1, r2)) :
  Calls Try.prog 51 #[.agg #[.int .i64 a0_0, .slice A0_1 l0_1.length c0_1], .int .i64 a1] w fun e w' => ∃ v1_ : Value, e = .returned (.agg #[.int .i64 r1, v1_]) ∧ Kd.R (Kd.int .i64) 3 w' w.heap.size (fun _ => True) v1_ r2 ∧ Below w.heap.size w w' := by
 have hu41 := Try.underlying41
 have HR0_1 := Aside0.mk hr0_1
 have HC0_1 := Aside0.mk hc0_1
 clear hr0_1 hc0_1
 have HB := Aside0.mk (Below.refl w.heap.size w)
 have H : ((spec_GapsOk.f k a0_0 l0_1).bind fun t320 => (if t320 = true then ((spec_l1In.f a1 1 a0_0).bind fun t321 => (spec_GapsForget.j0 k a1 (!t321) a0_0 l0_1)) else (spec_GapsForget.j0 k a1 true a0_0 l0_1))) = some (r1, r2) := h
 clear h
 have HC3 := Aside0.mk H
 clear H
 go_enter Try.func51, Try.ntmps51
 go_upto_region 1 with (first | ((with_reducible refine gate_dst (N := 2) rfl ?_); refine sqx 2 #[.int .i64 a0_0, .slice A0_1 l0_1.length c0_1] 41 ?_; intro gb318 hg w4 hbox hb; have BK318 := Aside0.mk hbox; have GW318 := sqg HB hg; have GE318 := sqg HB hg; replace HB := sqs HB hb; clear hb hbox hg) | ((with_reducible refine gate_dst (N := 4) rfl ?_); refine sqx 4 #[.int .i64 0, .slice none 0 0] 41 ?_; intro gb319 hg w5 hbox hb; have BK319 := Aside0.mk hbox; have GW319 := sqg HB hg; have GE319 := sqg HB hg; have NB318_319 := sqn BK318 hg; have NB319_318 := sqm BK318 hg; replace BK318 := sqb BK318 hb; replace HB := sqs HB hb; clear hb hbox hg))
 (try simp only [Act.put, List.setIfInBounds_toArray, List.set_cons_zero, List.set_cons_succ])
 go_cut [16] (fun v16 wc => ∃ (kq : Nat) (x16_2 : Bool), v16 = .bool x16_2 ∧ Aside0 (spec_GapsForget.j0 kq a1 x16_2 a0_0 l0_1 = some (r1, r2)) ∧ Aside0 (kq ≤ k) ∧ Aside0 (wc.heap[gb318]? = some (.cells #[.int .i64 a0_0, (.slice A0_1 l0_1.length c0_1)] 41 (0, 0))) ∧ Aside0 (wc.heap[gb319]? = some (.cells #[.int .i64 0, (.slice none 0 0)] 41 (0, 0))) ∧ Aside0 (Below w.heap.size w wc))
 case first =>
  have H := HC3.out
  clear HC3
  replace H := sqbi H
  obtain ⟨t320, A6, H⟩ := H
  replace H : (if t320 = true then ((spec_l1In.f a1 1 a0_0).bind fun t321 => (spec_GapsForget.j0 k a1 (!t321) a0_0 l0_1)) else (spec_GapsForget.j0 k a1 true a0_0 l0_1)) = some (r1, r2) := H
  rcases sqI (t320 = true) with c7 | c7
  ·replace c7 := Bool.eq_false_iff.mpr c7
   subst c7
   have H1 : (spec_GapsForget.j0 k a1 true a0_0 l0_1) = some (r1, r2) := by rw [if_neg (show ¬ (false = true) by decide)] at H; exact H
   clear H
   have H := H1
   clear H1
   have H' := Aside0.mk H
   clear H
   have hnb13 := NB318_319.out
   have hnc13 := NB319_318.out
   obtain ⟨hcz14_0, hcz14_1, hfz14_0, hfz14_1⟩ := sqc2 BK318
   go_wp2_with (first | ((with_reducible refine gate_callee (f := 41) rfl ?_); refine sqL (some 8) Try.func41 #[.agg #[.int .i64 a0_0, .slice A0_1 l0_1.length c0_1]] ?_; (with_reducible refine (spec_GapsOk.calls k a0_0 _ _ l0_1 false _ ?side1 ?side2 A6.out).mono ?_); (case side1 => exact sqC (Kd.C_below HR0_1.out HB.out)); (case side2 => exact HC0_1.out); rintro e w15 ⟨rfl, hb⟩; refine ⟨_, rfl, ?_⟩; refine sqM2 BK318 BK319 hb ?_; clear BK318 BK319; intro BK318 BK319; replace HB := sqs HB hb; (try clear hb)))
   go_meet
   case rel => exact ⟨_, (true), (by first | rfl | (simp; done) | (simp [*]; done)), H', ⟨by first | omega | exact Nat.le_refl _⟩, sqk BK318, sqk BK319, sqh HB⟩
  subst c7
  have H1 : ((spec_l1In.f a1 1 a0_0).bind fun t321 => (spec_GapsForget.j0 k a1 (!t321) a0_0 l0_1)) = some (r1, r2) := by rw [if_pos rfl] at H; exact H
  clear H
  have H := H1
  clear H1
  replace H := sqbi H
  obtain ⟨t321, A8, H⟩ := H
  replace H : (spec_GapsForget.j0 k a1 (!t321) a0_0 l0_1) = some (r1, r2) := H
  have H' := Aside0.mk H
  clear H
  have hnb9 := NB318_319.out
  have hnc9 := NB319_318.out
  obtain ⟨hcz10_0, hcz10_1, hfz10_0, hfz10_1⟩ := sqc2 BK318
  go_wp2_with (first | ((with_reducible refine gate_callee (f := 41) rfl ?_); refine sqL (some 8) Try.func41 #[.agg #[.int .i64 a0_0, .slice A0_1 l0_1.length c0_1]] ?_; (with_reducible refine (spec_GapsOk.calls k a0_0 _ _ l0_1 true _ ?side1 ?side2 A6.out).mono ?_); (case side1 => exact sqC (Kd.C_below HR0_1.out HB.out)); (case side2 => exact HC0_1.out); rintro e w11 ⟨rfl, hb⟩; refine ⟨_, rfl, ?_⟩; refine sqM2 BK318 BK319 hb ?_; clear BK318 BK319; intro BK318 BK319; replace HB := sqs HB hb; (try clear hb); obtain ⟨hcz12_0, hcz12_1, hfz12_0, hfz12_1⟩ := sqc2 BK318) | (go_at_call 105; (with_reducible refine (spec_l1In.calls a1 1 a0_0 t321 _ A8.out).mono ?_); rintro e w' ⟨rfl, ⟨nd, rfl⟩⟩))
  go_meet
  case rel => exact ⟨_, (!t321), (by first | rfl | (simp; done) | (simp [*]; done)), H', ⟨by first | omega | exact Nat.le_refl _⟩, sqk BK318, sqk BK319, sqh HB⟩
 case rest =>
  clear HC3
  obtain ⟨kq, x16_2, rfl, HA, HJ2, BK318, BK319, HB⟩ := hcut
  cases kq with
  | zero => exact absurd HA.out (by simp [spec_GapsForget.j0])
  | succ kj2 =>
   have H := HA.out
   clear HA
   simp only [spec_GapsForget.j0] at H
   by_cases c16 : x16_2 = true
   ·subst c16
    have H1 : (some (0, ([] : List Int))) = some (r1, r2) := by rw [if_pos rfl] at H; exact H
    clear H
    have H := H1
    clear H1
    simp only [Option.some.injEq, Prod.mk.injEq] at H
    obtain ⟨rfl, rfl⟩ := H
    have hnb17 := NB319_318.out
    have hnc17 := NB318_319.out
    obtain ⟨hcz18_0, hcz18_1, hfz18_0, hfz18_1⟩ := sqc2 BK319
    go_wp2
    refine bodyPost_ret (results_cell_row rfl _ _ gb319 41 #[.int .i64 0, .slice none 0 0] (0, 0) _ rfl (by refine sqt ?_; refine blk_put (cs := #[.int .i64 0, .slice none 0 0]) ?_ 1 _ rfl; refine sqt ?_; refine blk_put (cs := #[.int .i64 0, .slice none 0 0]) ?_ 0 _ rfl; refine sqt ?_; exact BK319.out) Try.underlying41 rfl (by kernel_rfl)) rfl ?_
    exact ⟨_, by first | rfl | (simp [errW_none, errW_some] <;> rfl) | (simp [*, errW_none, errW_some] <;> rfl), by first | exact Kd.R_nil _ _ _ _ _ | exact Kd.N_nil _ _ _ _ _ | exact Kd.V_nil _ _ _ _ _ | exact Kd.Q_nil _ _ _ _ _ | exact Kd.S_nil _ _ _ _ _, by repeat (first | (with_reducible first | exact HB.out | apply below_alloc | apply pw_below_drewN | apply below_drew1 | refine below_set ?_ GE318.out | refine below_set ?_ GE319.out) | exact HB.out)⟩
   replace c16 := Bool.eq_false_iff.mpr c16
   subst c16
   have H1 : ((spec_l11Copy.f kj2 a0_0 l0_1).bind fun bt322 => (spec_GapsForget.l0 kj2 a1 0 a0_0 l0_1 bt322.1 bt322.2)) = some (r1, r2) := by rw [if_neg (show ¬ (false = true) by decide)] at H; exact H
   clear H
   have H := H1
   clear H1
   replace H := sqbi H
   obtain ⟨⟨t322, t323⟩, A19, H⟩ := H
   replace H : (spec_GapsForget.l0 kj2 a1 0 a0_0 l0_1 t322 t323) = some (r1, r2) := H
   have H' := Aside0.mk H
   clear H
   have hnb20 := NB318_319.out
   have hnc20 := NB319_318.out
   obtain ⟨hcz21_0, hcz21_1, hfz21_0, hfz21_1⟩ := sqc2 BK318
   go_wp2_with (first | ((with_reducible refine gate_callee (f := 113) rfl ?_); refine sqL (some 19) Try.func113 #[.agg #[.int .i64 a0_0, .slice A0_1 l0_1.length c0_1]] ?_; (with_reducible refine (spec_l11Copy.calls kj2 a0_0 _ _ l0_1 t322 t323 _ ?side1 ?side2 A19.out).mono ?_); (case side1 => exact sqC (Kd.C_below HR0_1.out HB.out)); (case side2 => exact HC0_1.out); rintro e w22 ⟨v324, rfl, ho0, hb⟩; refine ⟨_, rfl, ?_⟩; have HO325 := Aside0.mk (Kd.R_lower ho0 (below_size (sqB HB))); refine sqM2 BK318 BK319 hb ?_; clear BK318 BK319; intro BK318 BK319; replace HB := sqs HB hb; (try clear hb); (try clear hb2); (try clear hk); (try clear hi); (try clear ho0)) | ((with_reducible refine gate_dst (N := 5) rfl ?_); refine sqx 5 #[.int .i64 0, .slice none 0 0] 41 ?_; intro gb326 hg w23 hbox hb; have n0_ := Aside0.mk (Kd.R_below (sqy HO325.out) hb); have n1_ := sqb BK318 hb; have n2_ := sqb BK319 hb; have n3_ := sqs HB hb; have n4_ := Aside0.mk (hbox); have n5_ := sqg HB hg; have n6_ := sqg HB hg; have n7_ := sqn BK318 hg; have n8_ := sqm BK318 hg; have n9_ := sqn BK319 hg; have n10_ := sqm BK319 hg; clear HO325; clear BK318; clear BK319; clear HB; have HO325 := n0_; have BK318 := n1_; have BK319 := n2_; have HB := n3_; have BK326 := n4_; have GW326 := n5_; have GE326 := n6_; have NB318_326 := n7_; have NB326_318 := n8_; have NB319_326 := n9_; have NB326_319 := n10_; clear n0_ n1_ n2_ n3_ n4_ n5_ n6_ n7_ n8_ n9_ n10_; clear hb hbox hg; have hnb24 := NB326_318.out; have hnc24 := NB318_326.out; have hnb25 := NB326_319.out; have hnc25 := NB319_326.out; obtain ⟨hcz26_0, hcz26_1, hfz26_0, hfz26_1⟩ := sqc2 BK326; obtain ⟨Ao27, co27, eo27⟩ := Kd.R_slice HO325.out; subst eo27))
   go_loopg [6] kj2 (fun kq v6 w' => ∃ (x6_2 : Int) (x327001_2 : List Int) (u327001 : Value), v6 = .int .i64 x6_2 ∧ Aside0 (spec_GapsForget.l0 kq a1 x6_2 a0_0 l0_1 t322 x327001_2 = some (r1, r2)) ∧ Aside0 (kq ≤ kj2) ∧ Aside0 (Kd.R (Kd.int .i64) 3 w' w.heap.size (fun _ => True) u327001 x327001_2) ∧ Aside0 (w'.heap[gb318]? = some (.cells #[.int .i64 a0_0, (.slice A0_1 l0_1.length c0_1)] 41 (0, 0))) ∧ Aside0 (w'.heap[gb319]? = some (.cells #[.int .i64 0, (.slice none 0 0)] 41 (0, 0))) ∧ Aside0 (w'.heap[gb326]? = some (.cells #[.int .i64 t322, u327001] 41 (0, 0))) ∧ Aside0 (Below w.heap.size w w'))
   case atStart => exact ⟨(0), (t323), (.slice Ao27 t323.length co27), (by first | rfl | (simp; done) | (simp [*]; done)), H', ⟨Nat.le_refl _⟩, ⟨by (with_reducible repeat (first | apply Kd.R_alloc | apply Kd.R_drewN | apply Kd.R_drew)); exact Kd.R_mono (Kd.R_far (p := ⟨gb326, 1, none⟩) (Kd.R_far (p := ⟨gb326, 0, none⟩) (Kd.R_types HO325.out BK326.out (by decide)) (fun _ hk => hk.2) (.int .i64 t322)) (fun _ hk => hk.2) (.slice Ao27 t323.length co27)) (fun _ hk => trivial)⟩, ⟨by refine sqt ?_; refine blk_far ?_ NB318_326.out _; refine sqt ?_; refine blk_far ?_ NB318_326.out _; refine sqt ?_; exact BK318.out⟩, ⟨by refine sqt ?_; refine blk_far ?_ NB319_326.out _; refine sqt ?_; refine blk_far ?_ NB319_326.out _; refine sqt ?_; exact BK319.out⟩, ⟨by refine sqt ?_; refine blk_put (cs := #[.int .i64 t322, .slice none 0 0]) ?_ 1 _ rfl; refine sqt ?_; refine blk_put (cs := #[.int .i64 0, .slice none 0 0]) ?_ 0 _ rfl; refine sqt ?_; exact BK326.out⟩, sqh HB⟩
   case round =>
    clear H'
    obtain ⟨x6_2, x327001_2, u327001, rfl, HA, HK2, HO_327001, BK318, BK319, BK326, HB⟩ := hrel
    cases gk with
    | zero => exact absurd HA.out (by simp [spec_GapsForget.l0])
    | succ k2 =>
     have H := HA.out
     clear HA
     simp only [spec_GapsForget.l0] at H
     replace H := sqi H
     rcases H with ⟨c28, H⟩ | ⟨c28, H⟩
     ·have c28b0 := decide_eq_false c28
      clear c28
      simp only [Option.some.injEq, Prod.mk.injEq] at H
      obtain ⟨rfl, rfl⟩ := H
      have hnb44 := NB318_319.out
      have hnc44 := NB319_318.out
      have hnb45 := NB318_326.out
      have hnc45 := NB326_318.out
      obtain ⟨hcz46_0, hcz46_1, hfz46_0, hfz46_1⟩ := sqc2 BK318
      have hnb47 := NB326_319.out
      have hnc47 := NB319_326.out
      obtain ⟨hcz48_0, hcz48_1, hfz48_0, hfz48_1⟩ := sqc2 BK326
      obtain ⟨hcz49_0, hcz49_1, hfz49_0, hfz49_1⟩ := sqc2 BK319
      obtain ⟨Ao50, co50, eo50⟩ := Kd.R_slice HO_327001.out
      subst eo50
      go_wp2
      refine bodyPost_ret (results_cell_row rfl _ _ gb319 41 #[.int .i64 t322, .slice Ao50 x327001_2.length co50] (0, 0) _ rfl (by refine sqt ?_; refine blk_put (cs := #[.int .i64 t322, .slice none 0 0]) ?_ 1 _ rfl; refine sqt ?_; refine blk_put (cs := #[.int .i64 0, .slice none 0 0]) ?_ 0 _ rfl; refine sqt ?_; exact BK319.out) Try.underlying41 rfl (by kernel_rfl)) rfl ?_
      exact ⟨_, by first | rfl | (simp [errW_none, errW_some] <;> rfl) | (simp [*, errW_none, errW_some] <;> rfl), by (with_reducible repeat (first | apply Kd.R_alloc | apply Kd.R_drewN | apply Kd.R_drew)); exact Kd.R_mono (Kd.R_far (p := ⟨gb319, 1, none⟩) (Kd.R_far (p := ⟨gb319, 0, none⟩) (Kd.R_types HO_327001.out BK319.out (by decide)) (fun _ hk => hk.2) (.int .i64 t322)) (fun _ hk => hk.2) (.slice Ao50 x327001_2.length co50)) (fun _ hk => trivial), by repeat (first | (with_reducible first | exact HB.out | apply below_alloc | apply pw_below_drewN | apply below_drew1 | refine below_set ?_ GE318.out | refine below_set ?_ GE319.out | refine below_set ?_ GE326.out) | exact HB.out)⟩
     have c28b0 := decide_eq_true c28
     clear c28
     replace H := sqj H
     rcases H with ⟨c29, H⟩ | ⟨c29, H⟩
     ·have c29b0 : (x6_2 == a1) = true := beq_iff_eq.mpr c29
      have c29b1 : (x6_2 != a1) = false := bne_eq_false_iff_eq.mpr c29
      clear c29
      have H' := Aside0.mk H
      clear H
      have hnb30 := NB318_319.out
      have hnc30 := NB319_318.out
      have hnb31 := NB318_326.out
      have hnc31 := NB326_318.out
      obtain ⟨hcz32_0, hcz32_1, hfz32_0, hfz32_1⟩ := sqc2 BK318
      go_wp2
      go_roundg k2
      case measure => have := HJ2.out; have := HK2.out; omega
      case rel => exact ⟨(wrap64 (x6_2 + 1)), (x327001_2), (u327001), (by first | rfl | (simp; done) | (simp [*]; done)), H', ⟨by have := HJ2.out; have := HK2.out; omega⟩, ⟨sqy HO_327001.out⟩, sqk BK318, sqk BK319, sqk BK326, sqh HB⟩
     have c29b0 : (x6_2 == a1) = false := beq_eq_false_iff_ne.mpr c29
     have c29b1 : (x6_2 != a1) = true := bne_iff_ne.mpr c29
     replace H := sqbi H
     obtain ⟨t327, A33, H⟩ := H
     replace H : ((spec_l11Put.f t322 t327 a1 x6_2 1099511627776).bind fun t328 => (spec_GapsForget.l0 k2 a1 (wrap64 (x6_2 + 1)) a0_0 l0_1 t322 t328)) = some (r1, r2) := H
     replace H := sqbi H
     obtain ⟨t328, A34, H⟩ := H
     replace H : (spec_GapsForget.l0 k2 a1 (wrap64 (x6_2 + 1)) a0_0 l0_1 t322 t328) = some (r1, r2) := H
     have H' := Aside0.mk H
     clear H
     have hnb35 := NB318_319.out
     have hnc35 := NB319_318.out
     have hnb36 := NB318_326.out
     have hnc36 := NB326_318.out
     obtain ⟨hcz37_0, hcz37_1, hfz37_0, hfz37_1⟩ := sqc2 BK318
     have hnb38 := NB326_319.out
     have hnc38 := NB319_326.out
     obtain ⟨hcz39_0, hcz39_1, hfz39_0, hfz39_1⟩ := sqc2 BK326
     obtain ⟨Ao40, co40, eo40⟩ := Kd.R_slice HO_327001.out
     subst eo40
     go_wp2_with (first | ((with_reducible refine gate_callee (f := 116) rfl ?_); refine sqL (some 32) Try.func116 #[.agg #[.int .i64 t322, .slice Ao40 x327001_2.length co40], .int .i64 x6_2, .int .i64 a1, .int .i64 1099511627776] ?_; (with_reducible refine (spec_l11Put.calls t322 (fun k_ => some k_ = (.slice Ao40 x327001_2.length co40 : Value).ownBlock) (.slice Ao40 x327001_2.length co40) x327001_2 x6_2 a1 1099511627776 t327 w _ ?side1 ?side2 A33.out).mono ?_); (case side1 => repeat (first | (with_reducible first | exact HB.out | apply below_alloc | apply pw_below_drewN | apply below_drew1 | refine below_set ?_ GE318.out | refine below_set ?_ GE319.out | refine below_set ?_ GE326.out) | exact HB.out)); (case side2 => exact Kd.R_tight rfl HO_327001.out); rintro e w41 ⟨rfl, hy0, hb, hkp⟩; refine ⟨_, rfl, ?_⟩; have n0_ := Aside0.mk (Kd.R_reok rfl hy0 (fun k_ e_ => HO_327001.out.1 k_ e_)); have n1_ := Aside0.mk (blk_kept (sqt BK318.out) hkp (fun hs_ => (fun e_ => (Kd.R_ne HO_327001.out BK318.out (by decide)) e_) hs_)); have n2_ := Aside0.mk (blk_kept (sqt BK319.out) hkp (fun hs_ => (fun e_ => (Kd.R_ne HO_327001.out BK319.out (by decide)) e_) hs_)); have n3_ := Aside0.mk (blk_kept (sqt BK326.out) hkp (fun hs_ => (fun e_ => (Kd.R_ne HO_327001.out BK326.out (by decide)) e_) hs_)); have n4_ := Aside0.mk (hb); clear HO_327001; clear BK318; clear BK319; clear BK326; clear HB; have HO_327001 := n0_; have BK318 := n1_; have BK319 := n2_; have BK326 := n3_; have HB := n4_; clear n0_ n1_ n2_ n3_ n4_; (try clear hb); (try clear hkp); (try clear hy0); obtain ⟨hcz42_0, hcz42_1, hfz42_0, hfz42_1⟩ := sqc2 BK326) | ((with_reducible refine gate_callee (f := 116) rfl ?_); refine sqL (some 36) Try.func116 #[.agg #[.int .i64 t322, .slice Ao40 x327001_2.length co40], .int .i64 a1, .int .i64 x6_2, .int .i64 1099511627776] ?_; (with_reducible refine (spec_l11Put.calls t322 (fun k_ => some k_ = (.slice Ao40 x327001_2.length co40 : Value).ownBlock) (.slice Ao40 x327001_2.length co40) t327 a1 x6_2 1099511627776 t328 w _ ?side1 ?side2 A34.out).mono ?_); (case side1 => repeat (first | (with_reducible first | exact HB.out | apply below_alloc | apply pw_below_drewN | apply below_drew1 | refine below_set ?_ GE318.out | refine below_set ?_ GE319.out | refine below_set ?_ GE326.out) | exact HB.out)); (case side2 => exact Kd.R_tight rfl HO_327001.out); rintro e w43 ⟨rfl, hy0, hb, hkp⟩; refine ⟨_, rfl, ?_⟩; have n0_ := Aside0.mk (Kd.R_reok rfl hy0 (fun k_ e_ => HO_327001.out.1 k_ e_)); have n1_ := Aside0.mk (blk_kept (sqt BK318.out) hkp (fun hs_ => (fun e_ => (Kd.R_ne HO_327001.out BK318.out (by decide)) e_) hs_)); have n2_ := Aside0.mk (blk_kept (sqt BK319.out) hkp (fun hs_ => (fun e_ => (Kd.R_ne HO_327001.out BK319.out (by decide)) e_) hs_)); have n3_ := Aside0.mk (blk_kept (sqt BK326.out) hkp (fun hs_ => (fun e_ => (Kd.R_ne HO_327001.out BK326.out (by decide)) e_) hs_)); have n4_ := Aside0.mk (hb); clear HO_327001; clear BK318; clear BK319; clear BK326; clear HB; have HO_327001 := n0_; have BK318 := n1_; have BK319 := n2_; have BK326 := n3_; have HB := n4_; clear n0_ n1_ n2_ n3_ n4_; (try clear hb); (try clear hkp); (try clear hy0)))
     go_roundg k2
     case measure => have := HJ2.out; have := HK2.out; omega
     case rel => exact ⟨(wrap64 (x6_2 + 1)), (t328), (.slice Ao40 x327001_2.length co40), (by first | rfl | (simp; done) | (simp [*]; done)), H', ⟨by have := HJ2.out; have := HK2.out; omega⟩, ⟨sqy HO_327001.out⟩, sqk BK318, sqk BK319, sqk BK326, sqh HB⟩

/-! ### spec_l11Add: function 114 -/
set_option maxHeartbeats 8000000 in
set_option maxRecDepth 100000 in
theorem spec_l11Add.calls (a0 : Int) (a1 : Int) (r : Int) (w : World) (h : spec_l11Add.f a0 a1 = some r) :
  Calls Try.prog 114 #[.int .i64 a0, .int .i64 a1] w fun e w' => e = .returned (.int .i64 r) ∧ Drawn0 w w' := by
 have H : (if a0 ≥ 1099511627776 then (some 1099511627776) else (if a1 ≥ 1099511627776 then (some 1099511627776) else (if (wrap64 (a0 + a1)) ≥ 1099511627776 then (some 1099511627776) else (some (wrap64 (a0 + a1)))))) = some r := h
 clear h
 replace H := sqj H
 rcases H with ⟨c3, H⟩ | ⟨c3, H⟩
 ·have c3b0 : decide (1099511627776 ≤ a0) = true := decide_eq_true c3
  clear c3
  obtain rfl := Option.some.inj H
  go_enter Try.func114, Try.ntmps114
  go_wp2
  go_ret
  exact ⟨by first | rfl | (simp; done) | (simp [*]; done), by repeat (first | exact Drawn0.refl _ | apply Drawn0.step)⟩
 have c3b0 : decide (1099511627776 ≤ a0) = false := decide_eq_false c3
 clear c3
 replace H := sqj H
 rcases H with ⟨c4, H⟩ | ⟨c4, H⟩
 ·have c4b0 : decide (1099511627776 ≤ a1) = true := decide_eq_true c4
  clear c4
  obtain rfl := Option.some.inj H
  go_enter Try.func114, Try.ntmps114
  go_wp2
  go_ret
  exact ⟨by first | rfl | (simp; done) | (simp [*]; done), by repeat (first | exact Drawn0.refl _ | apply Drawn0.step)⟩
 have c4b0 : decide (1099511627776 ≤ a1) = false := decide_eq_false c4
 clear c4
 replace H := sqj H
 rcases H with ⟨c5, H⟩ | ⟨c5, H⟩
 ·have c5b0 : decide (1099511627776 ≤ (wrap64 (a0 + a1))) = true := decide_eq_true c5
  clear c5
  obtain rfl := Option.some.inj H
  go_enter Try.func114, Try.ntmps114
  go_wp2
  go_ret
  exact ⟨by first | rfl | (simp; done) | (simp [*]; done), by repeat (first | exact Drawn0.refl _ | apply Drawn0.step)⟩
 have c5b0 : decide (1099511627776 ≤ (wrap64 (a0 + a1))) = false := decide_eq_false c5
 clear c5
 obtain rfl := Option.some.inj H
 go_enter Try.func114, Try.ntmps114
 go_wp2
 go_ret
 exact ⟨by first | rfl | (simp; done) | (simp [*]; done), by repeat (first | exact Drawn0.refl _ | apply Drawn0.step)⟩

/-! ### spec_l11C: function 121 -/
set_option maxHeartbeats 8000000 in
set_option maxRecDepth 100000 in
theorem spec_l11C.calls (a0 : Int) (r : Bool) (w : World) (h : spec_l11C.f a0 = some r) :
  Calls Try.prog 121 #[.int .i64 a0] w fun e w' => e = .returned (.bool r) ∧ Drawn0 w w' := by
 have H : ((spec_l1In.f a0 (-4294967296) 4294967296).bind fun t329 => (some t329)) = some r := h
 clear h
 replace H := sqbi H
 obtain ⟨t329, A2, H⟩ := H
 replace H : (some t329) = some r := H
 obtain rfl := Option.some.inj H
 go_enter Try.func121, Try.ntmps121
 go_wp2_with (first | ((with_reducible refine gate_callee (f := 105) rfl ?_); refine sqL (some 4) Try.func105 #[.int .i64 a0, .int .i64 (-4294967296), .int .i64 4294967296] ?_; (with_reducible refine (spec_l1In.calls a0 (-4294967296) 4294967296 t329 _ A2.out).mono ?_); rintro e w' ⟨rfl, ⟨nd, rfl⟩⟩; refine ⟨_, rfl, ?_⟩))
 go_ret
 exact ⟨by first | rfl | (simp; done) | (simp [*]; done), by repeat (first | exact Drawn0.refl _ | apply Drawn0.step)⟩

/-! ### spec_l8Max: function 122 -/
set_option maxHeartbeats 8000000 in
set_option maxRecDepth 100000 in
theorem spec_l8Max.calls (a0 : Int) (a1 : Int) (r : Int) (w : World) (h : spec_l8Max.f a0 a1 = some r) :
  Calls Try.prog 122 #[.int .i64 a0, .int .i64 a1] w fun e w' => e = .returned (.int .i64 r) ∧ Drawn0 w w' := by
 have H : (if a0 > a1 then (some a0) else (some a1)) = some r := h
 clear h
 replace H := sqj H
 rcases H with ⟨c3, H⟩ | ⟨c3, H⟩
 ·have c3b0 : decide (a1 < a0) = true := decide_eq_true c3
  clear c3
  obtain rfl := Option.some.inj H
  go_enter Try.func122, Try.ntmps122
  go_wp2
  go_ret
  exact ⟨by first | rfl | (simp; done) | (simp [*]; done), by repeat (first | exact Drawn0.refl _ | apply Drawn0.step)⟩
 have c3b0 : decide (a1 < a0) = false := decide_eq_false c3
 clear c3
 obtain rfl := Option.some.inj H
 go_enter Try.func122, Try.ntmps122
 go_wp2
 go_ret
 exact ⟨by first | rfl | (simp; done) | (simp [*]; done), by repeat (first | exact Drawn0.refl _ | apply Drawn0.step)⟩

end Go.Proofs.Ytkekcenlleebeaa.PFnGapsDo
