/- Functions of the program as plain Lean functions, and that calls of them come to what these tell. Conditions: those in each law. -/
import Derived.Test.YtkekcenlleebeaaSq
import Derived.Test.YtkekcenlleebeaaDFnRestDo
import Derived.Test.YtkekcenlleebeaaQFnRestDox0
import Derived.Test.YtkekcenlleebeaaQFnRestDox2
import Derived.Test.YtkekcenlleebeaaQFnRestDox3
namespace Go.Proofs.Ytkekcenlleebeaa.PFnRestDo
open Go.RowKit Go.Proofs.Ytkekcenlleebeaa.Sq Go.Proofs.YtkekcenlleebeaaW.PrintWords Go.Proofs.YtkekcenlleebeaaW.PrintLast Go.Proofs.YtkekcenlleebeaaW.PrintMore
attribute [local go_sem] max2_int min2_int max_two min_two max_three min_three max_four min_four   -- for this text's walks alone
set_option linter.unusedVariables false
set_option linter.unusedSimpArgs false

/-! ### spec_l9Wild: function 94 -/
theorem spec_l9Wild.mono : ∀ a0 a1 k, LeO (spec_l9Wild.f k a0 a1) (spec_l9Wild.f (k + 1) a0 a1) := by
  intro a0 a1 k
  unfold spec_l9Wild.f
  repeat' first
      | (with_reducible exact spec_l1Rd_pick.mono _ _ _ _)
      | (with_reducible exact spec_l1Rd_wild.mono _ _ _)
      | (with_reducible exact spec_l9Rest.mono _ _ _)
      | (with_reducible exact LeO.refl _)
      | (with_reducible exact LeO.none _)
      | (with_reducible refine LeO.ite ?_ ?_)
      | (with_reducible refine LeO.bind ?_ (fun _ => ?_))
      | exact spec_l1Rd_pick.mono _ _ _ _
      | exact spec_l1Rd_wild.mono _ _ _
      | exact spec_l9Rest.mono _ _ _
      | exact LeO.none _
      | refine LeO.ite ?_ ?_
      | refine LeO.bind ?_ (fun _ => ?_)
def spec_l9Wild.T2 : Bool × List (List Nat × List Nat) := (true, [([], []), ([], []), ([1], [1]), ([0, 2], [0, 2]), ([3], [3]), ([], []), ([5, 2], [5]), ([4, 6], [4, 6]), ([7, 6, 0, 1, 2, 3, 4, 5, 6, 7], [7])])
def spec_l9Wild.B2 : List Nat := [0, 0, 2, 7, 15, 0, 38, 127, 255]
theorem spec_l9Wild.tab2 : rtab .any (opsOf Try.f94 2) = spec_l9Wild.T2 := by kernel_rfl
theorem spec_l9Wild.bits2 : waitsOk spec_l9Wild.T2.2 spec_l9Wild.B2 = true := by kernel_rfl
set_option maxHeartbeats 8000000 in
set_option maxRecDepth 100000 in
theorem spec_l9Wild.calls (k : Nat) (g : Nat) (s0_0 : List Int) (s0_1 : Int) (r1 : Int) (r2 : Int) (r3 : Int) (w0 w : World) (hI : IsS161 w0 w g s0_0 s0_1) (hB : Below w0.heap.size w0 w) (h : spec_l9Wild.f k s0_0 s0_1 = some (r1, r2, r3)) :
    Calls Try.prog 94 #[.pointer (some ⟨g, 0, none⟩)] w fun e w' => e = .returned (.agg #[.int .i64 r1, .int .i64 r2]) ∧ IsS161 w0 w' g s0_0 r3 ∧ Below w0.heap.size w0 w' ∧ KeepBut w w' g none := by
  have hu26 := Try.underlying26
  have HI0 := Aside0.mk hI
  have HK := Aside0.mk (KeepBut.refl w g none)
  have HL := Aside0.mk hB.size
  clear hI
  have HW0 := Aside0.mk hB.size
  have HB := Aside0.mk hB
  clear hB
  have H : ((spec_l1Rd_pick.f k s0_0 s0_1 14).bind fun bt189 => (if bt189.1 = 0 then ((some (([(-1), 0, 1, 65536, 65537] : List Int) : List Int)).bind fun y191 => ((spec_l1Rd_pick.f k s0_0 bt189.2 5).bind fun bt194 => (if 0 ≤ bt194.1 then (if bt194.1 < (y191.length : Int) then ((spec_l1Rd_wild.f k s0_0 bt194.2).bind fun bt197 => (some (rd y191 bt194.1, bt197.1, bt197.2))) else (none)) else (none)))) else ((spec_l9Rest.f k s0_0 bt189.2).bind fun bt199 => (some (bt199.1, bt199.2.1, bt199.2.2))))) = some (r1, r2, r3) := h
  clear h
  replace H := Option.bind_eq_some_iff.mp H
  obtain ⟨⟨t189, t190⟩, A20, H⟩ := H
  replace H : (if t189 = 0 then ((some (([(-1), 0, 1, 65536, 65537] : List Int) : List Int)).bind fun y191 => ((spec_l1Rd_pick.f k s0_0 t190 5).bind fun bt194 => (if 0 ≤ bt194.1 then (if bt194.1 < (y191.length : Int) then ((spec_l1Rd_wild.f k s0_0 bt194.2).bind fun bt197 => (some (rd y191 bt194.1, bt197.1, bt197.2))) else (none)) else (none)))) else ((spec_l9Rest.f k s0_0 t190).bind fun bt199 => (some (bt199.1, bt199.2.1, bt199.2.2)))) = some (r1, r2, r3) := H
  have A2 := Aside0.mk A20
  clear A20
  by_cases c3 : t189 = 0
  · rw [if_pos c3] at H
    have c3b0 : (t189 == 0) = true := beq_iff_eq.mpr c3
    have c3b1 : (t189 != 0) = false := bne_eq_false_iff_eq.mpr c3
    clear c3
    obtain ⟨y191, hy191⟩ : ∃ y_ : List Int, y_ = (([(-1), 0, 1, 65536, 65537] : List Int)) := ⟨_, rfl⟩
    replace H : ((spec_l1Rd_pick.f k s0_0 t190 5).bind fun bt194 => (if 0 ≤ bt194.1 then (if bt194.1 < (y191.length : Int) then ((spec_l1Rd_wild.f k s0_0 bt194.2).bind fun bt197 => (some (rd y191 bt194.1, bt197.1, bt197.2))) else (none)) else (none))) = some (r1, r2, r3) := by first | (rw [hy191]; with_reducible exact H) | (have H2_ := (Option.bind_some _ _).symm.trans H; rw [hy191]; with_reducible exact H2_) | (have H2_ := (Option.bind_some _ _).symm.trans H; with_reducible exact H2_) | with_reducible exact H | (rw [hy191]; exact H) | exact H
    have Ny191 := Aside0.mk hy191
    clear hy191
    replace H := Option.bind_eq_some_iff.mp H
    obtain ⟨⟨t194, t195⟩, A40, H⟩ := H
    replace H : (if 0 ≤ t194 then (if t194 < (y191.length : Int) then ((spec_l1Rd_wild.f k s0_0 t195).bind fun bt197 => (some (rd y191 t194, bt197.1, bt197.2))) else (none)) else (none)) = some (r1, r2, r3) := H
    have A4 := Aside0.mk A40
    clear A40
    by_cases c5 : 0 ≤ t194
    · rw [if_pos c5] at H
      have c5b0 : decide (0 ≤ t194) = true := decide_eq_true c5
      clear c5
      by_cases c6 : t194 < (y191.length : Int)
      · rw [if_pos c6] at H
        have c6b0 : decide (t194 < (y191.length : Int)) = true := decide_eq_true c6
        clear c6
        replace H := Option.bind_eq_some_iff.mp H
        obtain ⟨⟨t197, t198⟩, A70, H⟩ := H
        replace H : (some (rd y191 t194, t197, t198)) = some (r1, r2, r3) := H
        have A7 := Aside0.mk A70
        clear A70
        simp only [Option.some.injEq, Prod.mk.injEq] at H
        obtain ⟨rfl, rfl, rfl⟩ := H
        go_enter Try.func94, Try.ntmps94
        try go_wp2_with (first | ((with_reducible refine gate_dst (N := 2) rfl ?_); refine sqx 2 #[.int .i64 0, .int .i64 0] 26 ?_; intro gb188 hg w8 hbox hb; have n0_ := Aside0.mk (IsS161.below (by repeat (first | (with_reducible first | exact HI0.out | apply IsS161.alloc | apply IsS161.drewN | apply IsS161.drew | apply IsS161.set_1) | exact HI0.out)) hb); have n1_ := Aside0.mk (KeepBut.trans (by repeat (first | (with_reducible first | exact HK.out | apply KeepBut.set_ | apply keep_drewN | apply keep_drew | apply keep_alloc) | exact HK.out)) (KeepBut.of_below hb g none) (.inl rfl)); have n2_ := Aside0.mk (below_step (by repeat (first | (with_reducible first | exact HB.out | apply below_alloc | apply pw_below_drewN | apply below_drew1 | refine below_set ?_ (IsS161.ge HI0.out)) | exact HB.out)) hb); have n3_ := Aside0.mk (hbox); have n4_ := Aside0.mk ((by rw [hg]; exact (keep_size (w := w) (g := g) (row := none) (by repeat (first | (with_reducible first | exact HK.out | apply KeepBut.set_ | apply keep_drewN | apply keep_drew | apply keep_alloc) | exact HK.out))) : w.heap.size ≤ gb188)); have n5_ := Aside0.mk ((Nat.le_trans HW0.out (by rw [hg]; exact (keep_size (w := w) (g := g) (row := none) (by repeat (first | (with_reducible first | exact HK.out | apply KeepBut.set_ | apply keep_drewN | apply keep_drew | apply keep_alloc) | exact HK.out))) : w.heap.size ≤ gb188) : w0.heap.size ≤ gb188)); have n6_ := Aside0.mk ((by rw [hg]; exact Nat.ne_of_lt (IsS161.lt (show IsS161 w0 _ g s0_0 s0_1 from by repeat (first | (with_reducible first | exact HI0.out | apply IsS161.alloc | apply IsS161.drewN | apply IsS161.drew | apply IsS161.set_1) | exact HI0.out))) : g ≠ gb188)); have n7_ := Aside0.mk ((by rw [hg]; exact Nat.ne_of_gt (IsS161.lt (show IsS161 w0 _ g s0_0 s0_1 from by repeat (first | (with_reducible first | exact HI0.out | apply IsS161.alloc | apply IsS161.drewN | apply IsS161.drew | apply IsS161.set_1) | exact HI0.out))) : gb188 ≠ g)); clear HI0; clear HK; clear HB; have HI0 := n0_; have HK := n1_; have HB := n2_; have BK188 := n3_; have GW188 := n4_; have GE188 := n5_; have NB0_188 := n6_; have NB188_0 := n7_; clear n0_ n1_ n2_ n3_ n4_ n5_ n6_ n7_; clear hb hbox hg) | ((with_reducible refine gate_callee (f := 109) rfl ?_); refine sqL (some 4) Try.func109 #[.pointer (some ⟨g, 0, none⟩), .int .i64 14] ?_; (with_reducible refine (spec_l1Rd_pick.calls k g s0_0 s0_1 14 t189 t190 w0 _ ?side1 ?side2 A2.out).mono ?_); (case side1 => repeat (first | (with_reducible first | exact HI0.out | apply IsS161.alloc | apply IsS161.drewN | apply IsS161.drew | apply IsS161.set_1 | refine IsS161.far ?_ NB0_188.out _) | exact HI0.out)); (case side2 => repeat (first | (with_reducible first | exact HB.out | apply below_alloc | apply pw_below_drewN | apply below_drew1 | refine below_set ?_ (IsS161.ge HI0.out) | refine below_set ?_ GE188.out) | exact HB.out)); rintro e w9 ⟨rfl, hi, hb, hk⟩; refine ⟨_, rfl, ?_⟩; have n0_ := Aside0.mk (KeepBut.blk hk (g' := gb188) (o := .cells #[.int .i64 0, .int .i64 0] 26 (0, 0)) (by refine sqt ?_; exact BK188.out) NB188_0.out (by simp)); have n1_ := Aside0.mk (KeepBut.trans (by repeat (first | (with_reducible first | exact HK.out | apply KeepBut.set_ | apply keep_drewN | apply keep_drew | apply keep_alloc | refine keep_far ?_ GW188.out _) | exact HK.out)) hk (.inl rfl)); have n2_ := Aside0.mk (hb); have n3_ := Aside0.mk (hi); clear BK188; clear HK; clear HB; clear HI0; have BK188 := n0_; have HK := n1_; have HB := n2_; have HI0 := n3_; clear n0_ n1_ n2_ n3_; (try clear hb); (try clear hb2); (try clear hk); (try clear hi)))
        have pi196 : (0 ≤ (t194 : Int)) = True := eq_true (of_decide_eq_true (by first | (with_reducible assumption) | assumption))
        have qi196 : (t194 < (y191.length : Int)) = True := eq_true (of_decide_eq_true (by first | (with_reducible assumption) | assumption))
        replace BK188 := Aside0.mk (blk_drew BK188.out)
        replace HI0 := Aside0.mk (IsS161.drew HI0.out)
        replace HK := Aside0.mk (keep_drew HK.out)
        replace HB := Aside0.mk (below_drew1 HB.out)
        refine start_ (n := 9) (S := fun w' => True) (ds := []) #[false, false, false, false, false, false, false, false, false] (by kernel_rfl) rfl rfl trivial (fun hHeld => ?_); refine with_tabW spec_l9Wild.tab2 spec_l9Wild.bits2 (fun HT_ HW_ => ?_)
        generalize w9.drew = w10 at BK188 HI0 HK HB hHeld ⊢
        refine sqp HT_ 1 7 ?_
        refine sqp HT_ 5 11 ?_
        refine inv_at [0, 2, 3, 4, 6, 7, 8] (fun a0_ b a w' => ∃ (v192 : Value) (adz_v192 : Addr) (m3_ : Value), a = putSel a0_ b [(0, 6, v192), (2, 8, .int .i64 t194), (3, 9, m3_), (4, 10, .int .i64 (rd y191 t194)), (6, 12, .int .i64 t197), (7, 13, .agg #[.int .i64 (rd y191 t194), .int .i64 t197])] ∧ (b 8 = false → w'.heap[gb188]? = some (.cells #[.int .i64 0, .int .i64 0] 26 (0, 0))) ∧ (b 2 = false → IsS161 w0 w' g s0_0 t190) ∧ (KeepBut w w' g none) ∧ (Below w0.heap.size w0 w') ∧ (b 0 = true → Kd.R (Kd.int .i64) 3 w' w.heap.size (fun _ => True) v192 y191) ∧ (b 0 = true → ∃ c_, (v192 : Value) = .slice (some adz_v192) y191.length c_) ∧ (b 2 = true → b 6 = false → IsS161 w0 w' g s0_0 t195) ∧ (b 6 = true → IsS161 w0 w' g s0_0 t198) ∧ (b 8 = true → w'.heap[gb188]? = some (.cells #[.int .i64 (rd y191 t194), .int .i64 t197] 26 (0, 0))) ∧ (b 3 = true → (m3_ : Value) = .pointer (some (adz_v192.add (t194).toNat)))) HT_.out HW_.out (by kernel_rfl) (by kernel_rfl) ?_ ?_ ?_
        · exact ⟨.bool false, ⟨0, 0, none⟩, .bool false, by simp only [putSel, Bool.false_eq_true, if_false], fun _ => BK188.out, fun _ => HI0.out, HK.out, HB.out, fun h_ => absurd h_ (by decide), fun h_ => absurd h_ (by decide), fun h_ => absurd h_ (by decide), fun h_ => absurd h_ (by decide), fun h_ => absurd h_ (by decide), fun h_ => absurd h_ (by decide)⟩
        · skip
          clear BK188 HB HI0 HK
          refine steps_cons ?_ ?_
          · rintro b a w' ⟨v192, adz_v192, m3_, ha, Q_BK188, Q_HI0, Q_HK, Q_HB, Q_HO193, Q_HA_HO193, Q_HI0_e2, Q_HI0_e6, Q_BK188_e8, Q_X3_⟩ hb_ hon hoff
            refine ⟨_, rfl, fun K hK => ?_⟩
            replace ha := Aside0.mk ha
            have BK188 := Aside0.mk (Q_BK188 (hoff 8 (by kernel_rfl)))
            have HK := Aside0.mk Q_HK
            have HB := Aside0.mk Q_HB
            refine Kd.R_lit_step (Kd.int .i64) _ 3 ?hg (N := 6) ?hd (xs := ([(-1), 0, 1, 65536, 65537] : List Int)) (inner := [.int .i64 (-1), .int .i64 0, .int .i64 1, .int .i64 65536, .int .i64 65537]) (ok := fun _ => True) (okp := fun _ => True) ?hr ?hp (fun _ hk => hk) trivial (Below.refl _ _) (Nat.le_refl _) (by simp) ?_; (case hd => rfl); (case hg => rfl); (case hr => first | (go_simp; done) | (go_simp; rfl)); (case hp => exact (Reps.one (show Kd.M (Kd.int .i64) _ _ _ (-1) [.int .i64 (-1)] from rfl) (Reps.one (show Kd.M (Kd.int .i64) _ _ _ 0 [.int .i64 0] from rfl) (Reps.one (show Kd.M (Kd.int .i64) _ _ _ 1 [.int .i64 1] from rfl) (Reps.one (show Kd.M (Kd.int .i64) _ _ _ 65536 [.int .i64 65536] from rfl) (Reps.one (show Kd.M (Kd.int .i64) _ _ _ 65537 [.int .i64 65537] from rfl) (Reps.none _ _)))))))
            intro v192 w11 ho12 hb hg_ hnew_
            clear hg_ hnew_
            (first | rw [← Ny191.out] at ho12 | (simp only [Int.reduceToNat] at ho12; rw [← Ny191.out] at ho12))
            have n0_ := Aside0.mk (Kd.R_lower ho12 (keep_size (w := w) (g := g) (row := none) (by repeat (first | (with_reducible first | exact HK.out | apply KeepBut.set_ | apply keep_drewN | apply keep_drew | apply keep_alloc | refine keep_far ?_ GW188.out _) | exact HK.out))))
            have n2_ := sqb BK188 hb
            have n3_ := Aside0.mk (KeepBut.trans (by repeat (first | (with_reducible first | exact HK.out | apply KeepBut.set_ | apply keep_drewN | apply keep_drew | apply keep_alloc | refine keep_far ?_ GW188.out _) | exact HK.out)) (KeepBut.of_below hb g none) (.inl rfl))
            have n4_ := sqs HB hb
            have z_HI0 := fun (h0_ : b 2 = false) => (show IsS161 w0 w11 g s0_0 t190 from by first | exact (IsS161.below (by repeat (first | (with_reducible first | exact (Q_HI0 h0_) | apply IsS161.alloc | apply IsS161.drewN | apply IsS161.drew | apply IsS161.set_1 | refine IsS161.far ?_ NB0_188.out _) | exact (Q_HI0 h0_))) hb))
            have z_HI0_e2 := fun (h0_ : b 2 = true) (h1_ : b 6 = false) => (show IsS161 w0 w11 g s0_0 t195 from by first | exact (IsS161.below (by repeat (first | (with_reducible first | exact (Q_HI0_e2 h0_ h1_) | apply IsS161.alloc | apply IsS161.drewN | apply IsS161.drew | apply IsS161.set_1 | refine IsS161.far ?_ NB0_188.out _) | exact (Q_HI0_e2 h0_ h1_))) hb))
            have z_HI0_e6 := fun (h0_ : b 6 = true) => (show IsS161 w0 w11 g s0_0 t198 from by first | exact (IsS161.below (by repeat (first | (with_reducible first | exact (Q_HI0_e6 h0_) | apply IsS161.alloc | apply IsS161.drewN | apply IsS161.drew | apply IsS161.set_1 | refine IsS161.far ?_ NB0_188.out _) | exact (Q_HI0_e6 h0_))) hb))
            clear BK188
            clear HK
            clear HB
            have HO193 := n0_
            have BK188 := n2_
            have HK := n3_
            have HB := n4_
            clear n0_ n2_ n3_ n4_
            clear hb ho12
            obtain ⟨Ao13, co13, eo13⟩ := Kd.R_slice HO193.out
            subst eo13
            obtain ⟨ado13, fo13, _⟩ := Kd.at_int (Kd.R_reads' HO193.out).2.2 0 (by decide) (by rw [Ny191.out]; simp)
            cases fo13
            refine hK.out _ _ ⟨.slice (some ado13) y191.length co13, ado13, m3_, (by rw [ha.out]; exact putSel_upk 0 hb_ rfl rfl rfl), fun _ => (by refine sqt ?_; exact BK188.out), z_HI0, (by repeat (first | (with_reducible first | exact HK.out | apply KeepBut.set_ | apply keep_drewN | apply keep_drew | apply keep_alloc | refine keep_far ?_ GW188.out _) | exact HK.out)), (by repeat (first | (with_reducible first | exact HB.out | apply below_alloc | apply pw_below_drewN | apply below_drew1 | refine below_set ?_ GE188.out) | exact HB.out)), fun _ => (by (with_reducible repeat (first | apply Kd.R_alloc | apply Kd.R_drewN | apply Kd.R_drew)); exact HO193.out), fun _ => ⟨_, rfl⟩, z_HI0_e2, z_HI0_e6, fun h0_ => absurd ((hoff 8 (by kernel_rfl)).symm.trans h0_) (by decide), fun h0_ => absurd ((hoff 3 (by kernel_rfl)).symm.trans h0_) (by decide)⟩
          refine steps_cons ?_ ?_
          · rintro b a w' ⟨v192, adz_v192, m3_, ha, Q_BK188, Q_HI0, Q_HK, Q_HB, Q_HO193, Q_HA_HO193, Q_HI0_e2, Q_HI0_e6, Q_BK188_e8, Q_X3_⟩ hb_ hon hoff
            refine ⟨_, rfl, fun K hK => ?_⟩
            have e7 : a.tmps[7]? = some (.pointer (some ⟨g, 0, none⟩)) := by rw [ha]; exact (putSel_off rfl).trans rfl
            replace ha := Aside0.mk ha
            have BK188 := Aside0.mk (Q_BK188 (hoff 8 (by kernel_rfl)))
            have HI0 := Aside0.mk (Q_HI0 hb_)
            have HK := Aside0.mk Q_HK
            have HB := Aside0.mk Q_HB
            refine goes_ Try.func109 (by kernel_rfl) rfl #[.pointer (some ⟨g, 0, none⟩), .int .i64 5] (by rfl) rfl rfl (by first | (simp only [List.map_toArray, List.map_cons, List.map_nil, Act.eval, Array.getD_eq_getD_getElem?, Option.getD_some, e7]; done) | (simp only [List.map_toArray, List.map_cons, List.map_nil, Act.eval, Array.getD_eq_getD_getElem?, Option.getD_some, e7]; rfl)) ?_
            with_reducible refine (spec_l1Rd_pick.calls k g s0_0 t190 5 t194 t195 w0 _ ?side1 ?side2 A4.out).mono ?_
            (case side1 => repeat (first | (with_reducible first | exact HI0.out | apply IsS161.alloc | apply IsS161.drewN | apply IsS161.drew | apply IsS161.set_1 | refine IsS161.far ?_ NB0_188.out _) | exact HI0.out))
            (case side2 => repeat (first | (with_reducible first | exact HB.out | apply below_alloc | apply pw_below_drewN | apply below_drew1 | refine below_set ?_ (IsS161.ge HI0.out) | refine below_set ?_ GE188.out) | exact HB.out))
            rintro e w11 ⟨rfl, hi, hb, hk⟩
            refine ⟨_, rfl, ?_⟩
            have n0_ := Aside0.mk (KeepBut.blk hk (g' := gb188) (o := .cells #[.int .i64 0, .int .i64 0] 26 (0, 0)) (by refine sqt ?_; exact BK188.out) NB188_0.out (by simp))
            have n1_ := Aside0.mk (KeepBut.trans (by repeat (first | (with_reducible first | exact HK.out | apply KeepBut.set_ | apply keep_drewN | apply keep_drew | apply keep_alloc | refine keep_far ?_ GW188.out _) | exact HK.out)) hk (.inl rfl))
            have n2_ := Aside0.mk (hb)
            have n3_ := Aside0.mk (hi)
            have z_HO193 := fun (h0_ : b 0 = true) => (show Kd.R (Kd.int .i64) 3 w11 w.heap.size (fun _ => True) v192 y191 from by first | exact (Kd.R_mono (Kd.R_keep (IsS161.apart (show IsS161 w0 _ g s0_0 t190 from by repeat (first | (with_reducible first | exact HI0.out | apply IsS161.alloc | apply IsS161.drewN | apply IsS161.drew | apply IsS161.set_1 | refine IsS161.far ?_ NB0_188.out _) | exact HI0.out)) (by (with_reducible repeat (first | apply Kd.R_alloc | apply Kd.R_drewN | apply Kd.R_drew)); exact (Q_HO193 h0_)) (by decide)) hk (fun _ h => h.2)) (fun _ h => h.1)) | exact Kd.R_mono (Kd.R_mono (Kd.R_keep (IsS161.apart (show IsS161 w0 _ g s0_0 t190 from by repeat (first | (with_reducible first | exact HI0.out | apply IsS161.alloc | apply IsS161.drewN | apply IsS161.drew | apply IsS161.set_1 | refine IsS161.far ?_ NB0_188.out _) | exact HI0.out)) (by (with_reducible repeat (first | apply Kd.R_alloc | apply Kd.R_drewN | apply Kd.R_drew)); exact (Q_HO193 h0_)) (by decide)) hk (fun _ h => h.2)) (fun _ h => h.1)) (fun _ h_ => by first | trivial | exact h_ | exact h_.1))
            clear BK188
            clear HK
            clear HB
            clear HI0
            have BK188 := n0_
            have HK := n1_
            have HB := n2_
            have HI0 := n3_
            clear n0_ n1_ n2_ n3_
            (try clear hb)
            (try clear hb2)
            (try clear hk)
            (try clear hi)
            refine hK.out _ _ ⟨v192, adz_v192, m3_, (by rw [ha.out]; exact putSel_upk 1 hb_ rfl rfl rfl), fun _ => (by refine sqt ?_; exact BK188.out), fun h0_ => absurd ((up_self b 2).symm.trans h0_) (by decide), (by repeat (first | (with_reducible first | exact HK.out | apply KeepBut.set_ | apply keep_drewN | apply keep_drew | apply keep_alloc | refine keep_far ?_ GW188.out _) | exact HK.out)), (by repeat (first | (with_reducible first | exact HB.out | apply below_alloc | apply pw_below_drewN | apply below_drew1 | refine below_set ?_ (IsS161.ge HI0.out) | refine below_set ?_ GE188.out) | exact HB.out)), z_HO193, Q_HA_HO193, fun _ _ => (by repeat (first | (with_reducible first | exact HI0.out | apply IsS161.alloc | apply IsS161.drewN | apply IsS161.drew | apply IsS161.set_1 | refine IsS161.far ?_ NB0_188.out _) | exact HI0.out)), fun h0_ => absurd ((hoff 6 (by kernel_rfl)).symm.trans h0_) (by decide), fun h0_ => absurd ((hoff 8 (by kernel_rfl)).symm.trans h0_) (by decide), fun h0_ => absurd ((hoff 3 (by kernel_rfl)).symm.trans h0_) (by decide)⟩
          refine steps_cons ?_ ?_
          · rintro b a w' ⟨v192, adz_v192, m3_, ha, Q_BK188, Q_HI0, Q_HK, Q_HB, Q_HO193, Q_HA_HO193, Q_HI0_e2, Q_HI0_e6, Q_BK188_e8, Q_X3_⟩ hb_ hon hoff
            refine ⟨_, rfl, fun K hK => ?_⟩
            have e6 : a.tmps[6]? = some (v192) := by rw [ha]; exact putSel_on (e := (0, 6, v192)) 0 rfl rfl (hon 0 (by kernel_rfl)) rfl
            have e8 : a.tmps[8]? = some (.int .i64 t194) := by rw [ha]; exact putSel_on (e := (2, 8, .int .i64 t194)) 1 rfl rfl (hon 2 (by kernel_rfl)) rfl
            replace ha := Aside0.mk ha
            have BK188 := Aside0.mk (Q_BK188 (hoff 8 (by kernel_rfl)))
            have HK := Aside0.mk Q_HK
            have HB := Aside0.mk Q_HB
            have HO193 := Aside0.mk (Q_HO193 (hon 0 (by kernel_rfl)))
            have HA_HO193 := Aside0.mk (Q_HA_HO193 (hon 0 (by kernel_rfl)))
            obtain ⟨c_, hv_⟩ := HA_HO193.out
            rw [hv_] at e6
            refine value_ (w1 := w') (v := .pointer (some (adz_v192.add (t194).toNat))) (by rfl) rfl ?_ ?_
            · go_simp
              (try simp only [i64_w])
              try rfl
            refine hK.out _ _ ⟨v192, adz_v192, (.pointer (some (adz_v192.add (t194).toNat))), (by rw [ha.out]; exact putSel_upk 2 hb_ rfl rfl rfl), Q_BK188, fun h0_ => absurd ((hon 2 (by kernel_rfl)).symm.trans h0_) (by decide), Q_HK, Q_HB, Q_HO193, Q_HA_HO193, Q_HI0_e2, Q_HI0_e6, fun h0_ => absurd ((hoff 8 (by kernel_rfl)).symm.trans h0_) (by decide), fun _ => rfl⟩
          refine steps_cons ?_ ?_
          · rintro b a w' ⟨v192, adz_v192, m3_, ha, Q_BK188, Q_HI0, Q_HK, Q_HB, Q_HO193, Q_HA_HO193, Q_HI0_e2, Q_HI0_e6, Q_BK188_e8, Q_X3_⟩ hb_ hon hoff
            refine ⟨_, rfl, fun K hK => ?_⟩
            have e9 : a.tmps[9]? = some (m3_) := by rw [ha]; exact putSel_on (e := (3, 9, m3_)) 2 rfl rfl (hon 3 (by kernel_rfl)) rfl
            rw [Q_X3_ (hon 3 (by kernel_rfl))] at e9
            replace ha := Aside0.mk ha
            have BK188 := Aside0.mk (Q_BK188 (hoff 8 (by kernel_rfl)))
            have HK := Aside0.mk Q_HK
            have HB := Aside0.mk Q_HB
            have HO193 := Aside0.mk (Q_HO193 (hon 0 (by kernel_rfl)))
            have HA_HO193 := Aside0.mk (Q_HA_HO193 (hon 0 (by kernel_rfl)))
            obtain ⟨c_, hv_⟩ := HA_HO193.out
            have hF_ := HO193.out
            rw [hv_] at hF_
            obtain ⟨ad_, ea_, hx_⟩ := Kd.at_int (Kd.R_reads' hF_).2.2 t194 (of_eq_true pi196) (of_eq_true qi196)
            cases ea_
            refine value_ (w1 := w') (v := .int .i64 (rd y191 t194)) (by rfl) rfl ?_ ?_
            · go_simp
              (try simp only [i64_w])
              try rfl
            refine hK.out _ _ ⟨v192, adz_v192, m3_, (by rw [ha.out]; exact putSel_upk 3 hb_ rfl rfl rfl), Q_BK188, fun h0_ => absurd ((hon 2 (by kernel_rfl)).symm.trans h0_) (by decide), Q_HK, Q_HB, Q_HO193, Q_HA_HO193, Q_HI0_e2, Q_HI0_e6, fun h0_ => absurd ((hoff 8 (by kernel_rfl)).symm.trans h0_) (by decide), Q_X3_⟩
          refine steps_cons ?_ ?_
          · rintro b a w' ⟨v192, adz_v192, m3_, ha, Q_BK188, Q_HI0, Q_HK, Q_HB, Q_HO193, Q_HA_HO193, Q_HI0_e2, Q_HI0_e6, Q_BK188_e8, Q_X3_⟩ hb_ hon hoff
            refine ⟨_, rfl, fun K hK => ?_⟩
            have e11 : a.tmps[11]? = some (.pointer (some ⟨g, 0, none⟩)) := by rw [ha]; exact (putSel_off rfl).trans rfl
            replace ha := Aside0.mk ha
            have BK188 := Aside0.mk (Q_BK188 (hoff 8 (by kernel_rfl)))
            have HK := Aside0.mk Q_HK
            have HB := Aside0.mk Q_HB
            have HI0 := Aside0.mk (Q_HI0_e2 (hon 2 (by kernel_rfl)) hb_)
            refine goes_ Try.func192 (by kernel_rfl) rfl #[.pointer (some ⟨g, 0, none⟩)] (by rfl) rfl rfl (by first | (simp only [List.map_toArray, List.map_cons, List.map_nil, Act.eval, Array.getD_eq_getD_getElem?, Option.getD_some, e11]; done) | (simp only [List.map_toArray, List.map_cons, List.map_nil, Act.eval, Array.getD_eq_getD_getElem?, Option.getD_some, e11]; rfl)) ?_
            with_reducible refine (spec_l1Rd_wild.calls k g s0_0 t195 t197 t198 w0 _ ?side1 ?side2 A7.out).mono ?_
            (case side1 => repeat (first | (with_reducible first | exact HI0.out | apply IsS161.alloc | apply IsS161.drewN | apply IsS161.drew | apply IsS161.set_1 | refine IsS161.far ?_ NB0_188.out _) | exact HI0.out))
            (case side2 => repeat (first | (with_reducible first | exact HB.out | apply below_alloc | apply pw_below_drewN | apply below_drew1 | refine below_set ?_ (IsS161.ge HI0.out) | refine below_set ?_ GE188.out) | exact HB.out))
            rintro e w13 ⟨rfl, hi, hb, hk⟩
            refine ⟨_, rfl, ?_⟩
            have n0_ := Aside0.mk (KeepBut.blk hk (g' := gb188) (o := .cells #[.int .i64 0, .int .i64 0] 26 (0, 0)) (by refine sqt ?_; exact BK188.out) NB188_0.out (by simp))
            have n1_ := Aside0.mk (KeepBut.trans (by repeat (first | (with_reducible first | exact HK.out | apply KeepBut.set_ | apply keep_drewN | apply keep_drew | apply keep_alloc | refine keep_far ?_ GW188.out _) | exact HK.out)) hk (.inl rfl))
            have n2_ := Aside0.mk (hb)
            have n3_ := Aside0.mk (hi)
            have z_HO193 := fun (h0_ : b 0 = true) => (show Kd.R (Kd.int .i64) 3 w13 w.heap.size (fun _ => True) v192 y191 from by first | exact (Kd.R_mono (Kd.R_keep (IsS161.apart (show IsS161 w0 _ g s0_0 t195 from by repeat (first | (with_reducible first | exact HI0.out | apply IsS161.alloc | apply IsS161.drewN | apply IsS161.drew | apply IsS161.set_1 | refine IsS161.far ?_ NB0_188.out _) | exact HI0.out)) (by (with_reducible repeat (first | apply Kd.R_alloc | apply Kd.R_drewN | apply Kd.R_drew)); exact (Q_HO193 h0_)) (by decide)) hk (fun _ h => h.2)) (fun _ h => h.1)) | exact Kd.R_mono (Kd.R_mono (Kd.R_keep (IsS161.apart (show IsS161 w0 _ g s0_0 t195 from by repeat (first | (with_reducible first | exact HI0.out | apply IsS161.alloc | apply IsS161.drewN | apply IsS161.drew | apply IsS161.set_1 | refine IsS161.far ?_ NB0_188.out _) | exact HI0.out)) (by (with_reducible repeat (first | apply Kd.R_alloc | apply Kd.R_drewN | apply Kd.R_drew)); exact (Q_HO193 h0_)) (by decide)) hk (fun _ h => h.2)) (fun _ h => h.1)) (fun _ h_ => by first | trivial | exact h_ | exact h_.1))
            clear BK188
            clear HK
            clear HB
            clear HI0
            have BK188 := n0_
            have HK := n1_
            have HB := n2_
            have HI0 := n3_
            clear n0_ n1_ n2_ n3_
            (try clear hb)
            (try clear hb2)
            (try clear hk)
            (try clear hi)
            refine hK.out _ _ ⟨v192, adz_v192, m3_, (by rw [ha.out]; exact putSel_upk 4 hb_ rfl rfl rfl), fun _ => (by refine sqt ?_; exact BK188.out), fun h0_ => absurd ((hon 2 (by kernel_rfl)).symm.trans h0_) (by decide), (by repeat (first | (with_reducible first | exact HK.out | apply KeepBut.set_ | apply keep_drewN | apply keep_drew | apply keep_alloc | refine keep_far ?_ GW188.out _) | exact HK.out)), (by repeat (first | (with_reducible first | exact HB.out | apply below_alloc | apply pw_below_drewN | apply below_drew1 | refine below_set ?_ (IsS161.ge HI0.out) | refine below_set ?_ GE188.out) | exact HB.out)), z_HO193, Q_HA_HO193, fun _ h1_ => absurd ((up_self b 6).symm.trans h1_) (by decide), fun _ => (by repeat (first | (with_reducible first | exact HI0.out | apply IsS161.alloc | apply IsS161.drewN | apply IsS161.drew | apply IsS161.set_1 | refine IsS161.far ?_ NB0_188.out _) | exact HI0.out)), fun h0_ => absurd ((hoff 8 (by kernel_rfl)).symm.trans h0_) (by decide), Q_X3_⟩
          refine steps_cons ?_ ?_
          · rintro b a w' ⟨v192, adz_v192, m3_, ha, Q_BK188, Q_HI0, Q_HK, Q_HB, Q_HO193, Q_HA_HO193, Q_HI0_e2, Q_HI0_e6, Q_BK188_e8, Q_X3_⟩ hb_ hon hoff
            refine ⟨_, rfl, fun K hK => ?_⟩
            have e10 : a.tmps[10]? = some (.int .i64 (rd y191 t194)) := by rw [ha]; exact putSel_on (e := (4, 10, .int .i64 (rd y191 t194))) 3 rfl rfl (hon 4 (by kernel_rfl)) rfl
            have e12 : a.tmps[12]? = some (.int .i64 t197) := by rw [ha]; exact putSel_on (e := (6, 12, .int .i64 t197)) 4 rfl rfl (hon 6 (by kernel_rfl)) rfl
            replace ha := Aside0.mk ha
            have BK188 := Aside0.mk (Q_BK188 (hoff 8 (by kernel_rfl)))
            have HK := Aside0.mk Q_HK
            have HB := Aside0.mk Q_HB
            have HO193 := Aside0.mk (Q_HO193 (hon 0 (by kernel_rfl)))
            have HA_HO193 := Aside0.mk (Q_HA_HO193 (hon 0 (by kernel_rfl)))
            have HI0 := Aside0.mk (Q_HI0_e6 (hon 6 (by kernel_rfl)))
            refine value_ (w1 := w') (v := .agg #[.int .i64 (rd y191 t194), .int .i64 t197]) (by rfl) rfl ?_ ?_
            · go_simp
              (try simp only [i64_w])
              try rfl
            refine hK.out _ _ ⟨v192, adz_v192, m3_, (by rw [ha.out]; exact putSel_upk 5 hb_ rfl rfl rfl), Q_BK188, fun h0_ => absurd ((hon 2 (by kernel_rfl)).symm.trans h0_) (by decide), Q_HK, Q_HB, Q_HO193, Q_HA_HO193, fun _ h1_ => absurd ((hon 6 (by kernel_rfl)).symm.trans h1_) (by decide), Q_HI0_e6, fun h0_ => absurd ((hoff 8 (by kernel_rfl)).symm.trans h0_) (by decide), Q_X3_⟩
          refine steps_cons ?_ ?_
          · rintro b a w' ⟨v192, adz_v192, m3_, ha, Q_BK188, Q_HI0, Q_HK, Q_HB, Q_HO193, Q_HA_HO193, Q_HI0_e2, Q_HI0_e6, Q_BK188_e8, Q_X3_⟩ hb_ hon hoff
            refine ⟨_, rfl, fun K hK => ?_⟩
            have e2 : a.tmps[2]? = some (.pointer (some ⟨gb188, 0, none⟩)) := by rw [ha]; exact (putSel_off rfl).trans rfl
            have e13 : a.tmps[13]? = some (.agg #[.int .i64 (rd y191 t194), .int .i64 t197]) := by rw [ha]; exact putSel_on (e := (7, 13, .agg #[.int .i64 (rd y191 t194), .int .i64 t197])) 5 rfl rfl (hon 7 (by kernel_rfl)) rfl
            replace ha := Aside0.mk ha
            have BK188 := Aside0.mk (Q_BK188 hb_)
            have HK := Aside0.mk Q_HK
            have HB := Aside0.mk Q_HB
            have HO193 := Aside0.mk (Q_HO193 (hon 0 (by kernel_rfl)))
            have HA_HO193 := Aside0.mk (Q_HA_HO193 (hon 0 (by kernel_rfl)))
            have HI0 := Aside0.mk (Q_HI0_e6 (hon 6 (by kernel_rfl)))
            obtain ⟨co17, eo17⟩ := HA_HO193.out
            clear HA_HO193
            subst eo17
            have hs18 : w'.cell? ⟨gb188, 0, none⟩ = some (.int .i64 0) := (blk_cell BK188.out 0).trans rfl
            have hfs18 := blk_frozen BK188.out 0
            have hs19 : w'.cell? ⟨gb188, 1, none⟩ = some (.int .i64 0) := (blk_cell BK188.out 1).trans rfl
            have hfs19 := blk_frozen BK188.out 1
            refine skip_ (w1 := ?_) (by rfl) rfl ?_ ?_
            rotate_left
            · go_simp
              rfl
            refine hK.out _ _ ⟨.slice (some adz_v192) y191.length co17, adz_v192, m3_, (by rw [ha.out]; exact putSel_none (v := undef) rfl), fun h0_ => absurd ((up_self b 8).symm.trans h0_) (by decide), fun h0_ => absurd ((hon 2 (by kernel_rfl)).symm.trans h0_) (by decide), (by repeat (first | (with_reducible first | exact HK.out | apply KeepBut.set_ | apply keep_drewN | apply keep_drew | apply keep_alloc | refine keep_far ?_ GW188.out _) | exact HK.out)), (by repeat (first | (with_reducible first | exact HB.out | apply below_alloc | apply pw_below_drewN | apply below_drew1 | refine below_set ?_ (IsS161.ge HI0.out) | refine below_set ?_ GE188.out) | exact HB.out)), fun _ => (by (with_reducible repeat (first | apply Kd.R_alloc | apply Kd.R_drewN | apply Kd.R_drew)); exact Kd.R_mono (Kd.R_far (p := ⟨gb188, 1, none⟩) (Kd.R_far (p := ⟨gb188, 0, none⟩) (Kd.R_types HO193.out BK188.out (by decide)) (fun _ hk => hk.2) (.int .i64 (rd y191 t194))) (fun _ hk => hk.2) (.int .i64 t197)) (fun _ hk => trivial)), fun _ => ⟨_, rfl⟩, fun _ h1_ => absurd ((hon 6 (by kernel_rfl)).symm.trans h1_) (by decide), fun _ => (by repeat (first | (with_reducible first | exact HI0.out | apply IsS161.alloc | apply IsS161.drewN | apply IsS161.drew | apply IsS161.set_1 | refine IsS161.far ?_ NB0_188.out _) | exact HI0.out)), fun _ => (by refine sqt ?_; refine blk_put (cs := #[.int .i64 (rd y191 t194), .int .i64 0]) ?_ 1 _ rfl; refine sqt ?_; refine blk_put (cs := #[.int .i64 0, .int .i64 0]) ?_ 0 _ rfl; refine sqt ?_; exact BK188.out), Q_X3_⟩
          exact steps_nil
        rintro b a w18 hall ⟨v192, adz_v192, m3_, ha, Q_BK188, Q_HI0, Q_HK, Q_HB, Q_HO193, Q_HA_HO193, Q_HI0_e2, Q_HI0_e6, Q_BK188_e8, Q_X3_⟩
        clear BK188 HB HI0 HK
        have hb0_ := hall 0 (by kernel_rfl)
        have hb2_ := hall 2 (by kernel_rfl)
        have hb3_ := hall 3 (by kernel_rfl)
        have hb4_ := hall 4 (by kernel_rfl)
        have hb6_ := hall 6 (by kernel_rfl)
        have hb7_ := hall 7 (by kernel_rfl)
        have hb8_ := hall 8 (by kernel_rfl)
        subst ha
        obtain rfl := Q_X3_ hb3_
        simp only [putSel, hb0_, hb2_, hb3_, hb4_, hb6_, hb7_, hb8_, if_true, Act.put, List.setIfInBounds_toArray, List.set_cons_zero, List.set_cons_succ]
        clear Q_BK188
        clear Q_HI0
        have HK := Aside0.mk Q_HK
        clear Q_HK
        have HB := Aside0.mk Q_HB
        clear Q_HB
        have HO193 := Aside0.mk (Q_HO193 hb0_)
        clear Q_HO193
        have HA_HO193 := Aside0.mk (Q_HA_HO193 hb0_)
        clear Q_HA_HO193
        clear Q_HI0_e2
        have HI0 := Aside0.mk (Q_HI0_e6 hb6_)
        clear Q_HI0_e6
        have BK188 := Aside0.mk (Q_BK188_e8 hb8_)
        clear Q_BK188_e8
        clear hall hb0_ hb2_ hb3_ hb4_ hb6_ hb7_ hb8_
        obtain ⟨co19, eo19⟩ := HA_HO193.out
        clear HA_HO193
        subst eo19
        try go_wp2
        refine bodyPost_ret (results_cell_row rfl _ _ gb188 26 #[.int .i64 (rd y191 t194), .int .i64 t197] (0, 0) _ rfl (by refine sqt ?_; exact BK188.out) Try.underlying26 rfl (by kernel_rfl)) rfl ?_
        exact ⟨by first | rfl | (simp [errW_none, errW_some] <;> rfl) | (simp [*, errW_none, errW_some] <;> rfl), by repeat (first | (with_reducible first | exact HI0.out | apply IsS161.alloc | apply IsS161.drewN | apply IsS161.drew | apply IsS161.set_1 | refine IsS161.far ?_ NB0_188.out _) | exact HI0.out), by repeat (first | (with_reducible first | exact HB.out | apply below_alloc | apply pw_below_drewN | apply below_drew1 | refine below_set ?_ (IsS161.ge HI0.out) | refine below_set ?_ GE188.out) | exact HB.out), by repeat (first | (with_reducible first | exact HK.out | apply KeepBut.set_ | apply keep_drewN | apply keep_drew | apply keep_alloc | refine keep_far ?_ GW188.out _) | exact HK.out)⟩
      · rw [if_neg c6] at H
        exact absurd H (by simp)
    · rw [if_neg c5] at H
      exact absurd H (by simp)
  · rw [if_neg c3] at H
    have c3b0 : (t189 == 0) = false := beq_eq_false_iff_ne.mpr c3
    have c3b1 : (t189 != 0) = true := bne_iff_ne.mpr c3
    replace H := Option.bind_eq_some_iff.mp H
    obtain ⟨⟨t199, t200, t201⟩, A200, H⟩ := H
    replace H : (some (t199, t200, t201)) = some (r1, r2, r3) := H
    have A20 := Aside0.mk A200
    clear A200
    simp only [Option.some.injEq, Prod.mk.injEq] at H
    obtain ⟨rfl, rfl, rfl⟩ := H
    go_enter Try.func94, Try.ntmps94
    go_wp2_with (first | ((with_reducible refine gate_dst (N := 2) rfl ?_); refine sqx 2 #[.int .i64 0, .int .i64 0] 26 ?_; intro gb188 hg w21 hbox hb; have n0_ := Aside0.mk (IsS161.below (by repeat (first | (with_reducible first | exact HI0.out | apply IsS161.alloc | apply IsS161.drewN | apply IsS161.drew | apply IsS161.set_1) | exact HI0.out)) hb); have n1_ := Aside0.mk (KeepBut.trans (by repeat (first | (with_reducible first | exact HK.out | apply KeepBut.set_ | apply keep_drewN | apply keep_drew | apply keep_alloc) | exact HK.out)) (KeepBut.of_below hb g none) (.inl rfl)); have n2_ := Aside0.mk (below_step (by repeat (first | (with_reducible first | exact HB.out | apply below_alloc | apply pw_below_drewN | apply below_drew1 | refine below_set ?_ (IsS161.ge HI0.out)) | exact HB.out)) hb); have n3_ := Aside0.mk (hbox); have n4_ := Aside0.mk ((by rw [hg]; exact (keep_size (w := w) (g := g) (row := none) (by repeat (first | (with_reducible first | exact HK.out | apply KeepBut.set_ | apply keep_drewN | apply keep_drew | apply keep_alloc) | exact HK.out))) : w.heap.size ≤ gb188)); have n5_ := Aside0.mk ((Nat.le_trans HW0.out (by rw [hg]; exact (keep_size (w := w) (g := g) (row := none) (by repeat (first | (with_reducible first | exact HK.out | apply KeepBut.set_ | apply keep_drewN | apply keep_drew | apply keep_alloc) | exact HK.out))) : w.heap.size ≤ gb188) : w0.heap.size ≤ gb188)); have n6_ := Aside0.mk ((by rw [hg]; exact Nat.ne_of_lt (IsS161.lt (show IsS161 w0 _ g s0_0 s0_1 from by repeat (first | (with_reducible first | exact HI0.out | apply IsS161.alloc | apply IsS161.drewN | apply IsS161.drew | apply IsS161.set_1) | exact HI0.out))) : g ≠ gb188)); have n7_ := Aside0.mk ((by rw [hg]; exact Nat.ne_of_gt (IsS161.lt (show IsS161 w0 _ g s0_0 s0_1 from by repeat (first | (with_reducible first | exact HI0.out | apply IsS161.alloc | apply IsS161.drewN | apply IsS161.drew | apply IsS161.set_1) | exact HI0.out))) : gb188 ≠ g)); clear HI0; clear HK; clear HB; have HI0 := n0_; have HK := n1_; have HB := n2_; have BK188 := n3_; have GW188 := n4_; have GE188 := n5_; have NB0_188 := n6_; have NB188_0 := n7_; clear n0_ n1_ n2_ n3_ n4_ n5_ n6_ n7_; clear hb hbox hg) | ((with_reducible refine gate_callee (f := 109) rfl ?_); refine sqL (some 4) Try.func109 #[.pointer (some ⟨g, 0, none⟩), .int .i64 14] ?_; (with_reducible refine (spec_l1Rd_pick.calls k g s0_0 s0_1 14 t189 t190 w0 _ ?side1 ?side2 A2.out).mono ?_); (case side1 => repeat (first | (with_reducible first | exact HI0.out | apply IsS161.alloc | apply IsS161.drewN | apply IsS161.drew | apply IsS161.set_1 | refine IsS161.far ?_ NB0_188.out _) | exact HI0.out)); (case side2 => repeat (first | (with_reducible first | exact HB.out | apply below_alloc | apply pw_below_drewN | apply below_drew1 | refine below_set ?_ (IsS161.ge HI0.out) | refine below_set ?_ GE188.out) | exact HB.out)); rintro e w22 ⟨rfl, hi, hb, hk⟩; refine ⟨_, rfl, ?_⟩; have n0_ := Aside0.mk (KeepBut.blk hk (g' := gb188) (o := .cells #[.int .i64 0, .int .i64 0] 26 (0, 0)) (by refine sqt ?_; exact BK188.out) NB188_0.out (by simp)); have n1_ := Aside0.mk (KeepBut.trans (by repeat (first | (with_reducible first | exact HK.out | apply KeepBut.set_ | apply keep_drewN | apply keep_drew | apply keep_alloc | refine keep_far ?_ GW188.out _) | exact HK.out)) hk (.inl rfl)); have n2_ := Aside0.mk (hb); have n3_ := Aside0.mk (hi); clear BK188; clear HK; clear HB; clear HI0; have BK188 := n0_; have HK := n1_; have HB := n2_; have HI0 := n3_; clear n0_ n1_ n2_ n3_; (try clear hb); (try clear hb2); (try clear hk); (try clear hi)) | ((with_reducible refine gate_callee (f := 194) rfl ?_); refine sqL (some 15) Try.func194 #[.pointer (some ⟨g, 0, none⟩)] ?_; (with_reducible refine (spec_l9Rest.calls k g s0_0 t190 t199 t200 t201 w0 _ ?side1 ?side2 A20.out).mono ?_); (case side1 => repeat (first | (with_reducible first | exact HI0.out | apply IsS161.alloc | apply IsS161.drewN | apply IsS161.drew | apply IsS161.set_1 | refine IsS161.far ?_ NB0_188.out _) | exact HI0.out)); (case side2 => repeat (first | (with_reducible first | exact HB.out | apply below_alloc | apply pw_below_drewN | apply below_drew1 | refine below_set ?_ (IsS161.ge HI0.out) | refine below_set ?_ GE188.out) | exact HB.out)); rintro e w23 ⟨rfl, hi, hb, hk⟩; refine ⟨_, rfl, ?_⟩; have n0_ := Aside0.mk (KeepBut.blk hk (g' := gb188) (o := .cells #[.int .i64 0, .int .i64 0] 26 (0, 0)) (by refine sqt ?_; exact BK188.out) NB188_0.out (by simp)); have n1_ := Aside0.mk (KeepBut.trans (by repeat (first | (with_reducible first | exact HK.out | apply KeepBut.set_ | apply keep_drewN | apply keep_drew | apply keep_alloc | refine keep_far ?_ GW188.out _) | exact HK.out)) hk (.inl rfl)); have n2_ := Aside0.mk (hb); have n3_ := Aside0.mk (hi); clear BK188; clear HK; clear HB; clear HI0; have BK188 := n0_; have HK := n1_; have HB := n2_; have HI0 := n3_; clear n0_ n1_ n2_ n3_; (try clear hb); (try clear hb2); (try clear hk); (try clear hi); have hnb24 := NB188_0.out; have hnc24 := NB0_188.out; obtain ⟨hcz25_0, hcz25_1, hfz25_0, hfz25_1⟩ := sqc2 BK188))
    refine bodyPost_ret (results_cell_row rfl _ _ gb188 26 #[.int .i64 t199, .int .i64 t200] (0, 0) _ rfl (by refine sqt ?_; refine blk_put (cs := #[.int .i64 t199, .int .i64 0]) ?_ 1 _ rfl; refine sqt ?_; refine blk_put (cs := #[.int .i64 0, .int .i64 0]) ?_ 0 _ rfl; refine sqt ?_; exact BK188.out) Try.underlying26 rfl (by kernel_rfl)) rfl ?_
    exact ⟨by first | rfl | (simp [errW_none, errW_some] <;> rfl) | (simp [*, errW_none, errW_some] <;> rfl), by repeat (first | (with_reducible first | exact HI0.out | apply IsS161.alloc | apply IsS161.drewN | apply IsS161.drew | apply IsS161.set_1 | refine IsS161.far ?_ NB0_188.out _) | exact HI0.out), by repeat (first | (with_reducible first | exact HB.out | apply below_alloc | apply pw_below_drewN | apply below_drew1 | refine below_set ?_ (IsS161.ge HI0.out) | refine below_set ?_ GE188.out) | exact HB.out), by repeat (first | (with_reducible first | exact HK.out | apply KeepBut.set_ | apply keep_drewN | apply keep_drew | apply keep_alloc | refine keep_far ?_ GW188.out _) | exact HK.out)⟩

/-! ### spec_DrawRestDo: function 62 -/
theorem spec_DrawRestDo.mono_l : ∀ k, (∀ y0 y1 y2, LeO (spec_DrawRestDo.j0 k y0 y1 y2) (spec_DrawRestDo.j0 (k + 1) y0 y1 y2))
  | 0 => fun _ _ _ r h => by simp [spec_DrawRestDo.j0] at h
  | k + 1 => by
    have ih0 := spec_DrawRestDo.mono_l k
    · intro y0 y1 y2
      unfold spec_DrawRestDo.j0
      repeat' first
      | (with_reducible exact ih0 _ _ _)
      | (with_reducible exact spec_l1Rd_pick.mono _ _ _ _)
      | (with_reducible exact spec_l9Wild.mono _ _ _)
      | (with_reducible exact LeO.refl _)
      | (with_reducible exact LeO.none _)
      | (with_reducible refine LeO.ite ?_ ?_)
      | (with_reducible refine LeO.bind ?_ (fun _ => ?_))
      | exact ih0 _ _ _
      | exact spec_l1Rd_pick.mono _ _ _ _
      | exact spec_l9Wild.mono _ _ _
      | exact LeO.none _
      | refine LeO.ite ?_ ?_
      | refine LeO.bind ?_ (fun _ => ?_)
theorem spec_DrawRestDo.mono : ∀ a0 k, LeO (spec_DrawRestDo.f k a0) (spec_DrawRestDo.f (k + 1) a0) := by
  intro a0 k
  have ih0 := spec_DrawRestDo.mono_l k
  unfold spec_DrawRestDo.f
  repeat' first
      | (with_reducible exact ih0 _ _ _)
      | (with_reducible exact spec_l1Rd_pick.mono _ _ _ _)
      | (with_reducible exact spec_l9Wild.mono _ _ _)
      | (with_reducible exact LeO.refl _)
      | (with_reducible exact LeO.none _)
      | (with_reducible refine LeO.ite ?_ ?_)
      | (with_reducible refine LeO.bind ?_ (fun _ => ?_))
      | exact ih0 _ _ _
      | exact spec_l1Rd_pick.mono _ _ _ _
      | exact spec_l9Wild.mono _ _ _
      | exact LeO.none _
      | refine LeO.ite ?_ ?_
      | refine LeO.bind ?_ (fun _ => ?_)
set_option maxHeartbeats 8000000 in
set_option maxRecDepth 100000 in
theorem spec_DrawRestDo.calls (k : Nat) (A0 : Option Addr) (c0 : Nat) (l0 : List Int) (r1 : Int) (r2 : Int) (r3 : Int) (r4 : Int) (r5 : Int) (w : World) (hr0 : Kd.C (Kd.int .u8) w A0 l0.length l0) (hc0 : l0.length ≤ c0) (h : spec_DrawRestDo.f k l0 = some (r1, r2, r3, r4, r5)) :
    Calls Try.prog 62 #[.slice A0 l0.length c0] w fun e w' => e = .returned (.tuple #[.int .i64 r1, .agg #[.int .i64 r2, .int .i64 r3], .agg #[.int .i64 r4, .int .i64 r5]]) ∧ Below w.heap.size w w' := by
  have hu26 := Try.underlying26
  have HR0 := Aside0.mk hr0
  have HC0 := Aside0.mk hc0
  clear hr0 hc0
  have HB := Aside0.mk (Below.refl w.heap.size w)
  have H : ((spec_l1Open.f l0).bind fun bt204 => ((spec_l1Rd_pick.f k bt204.1 bt204.2 13).bind fun bt207 => ((spec_l1Rd_pick.f k bt204.1 bt207.2 30).bind fun bt209 => (if bt209.1 = 0 then ((spec_l1Rd_pick.f k bt204.1 bt209.2 16).bind fun bt211 => (spec_DrawRestDo.j0 k (wrap64 (bt211.1 - 1)) bt204.1 bt211.2)) else (spec_DrawRestDo.j0 k (wrap64 (1 + bt207.1)) bt204.1 bt209.2))))) = some (r1, r2, r3, r4, r5) := h
  clear h
  replace H := Option.bind_eq_some_iff.mp H
  obtain ⟨⟨t204, t205⟩, A20, H⟩ := H
  replace H : ((spec_l1Rd_pick.f k t204 t205 13).bind fun bt207 => ((spec_l1Rd_pick.f k t204 bt207.2 30).bind fun bt209 => (if bt209.1 = 0 then ((spec_l1Rd_pick.f k t204 bt209.2 16).bind fun bt211 => (spec_DrawRestDo.j0 k (wrap64 (bt211.1 - 1)) t204 bt211.2)) else (spec_DrawRestDo.j0 k (wrap64 (1 + bt207.1)) t204 bt209.2)))) = some (r1, r2, r3, r4, r5) := H
  have A2 := Aside0.mk A20
  clear A20
  replace H := Option.bind_eq_some_iff.mp H
  obtain ⟨⟨t207, t208⟩, A30, H⟩ := H
  replace H : ((spec_l1Rd_pick.f k t204 t208 30).bind fun bt209 => (if bt209.1 = 0 then ((spec_l1Rd_pick.f k t204 bt209.2 16).bind fun bt211 => (spec_DrawRestDo.j0 k (wrap64 (bt211.1 - 1)) t204 bt211.2)) else (spec_DrawRestDo.j0 k (wrap64 (1 + t207)) t204 bt209.2))) = some (r1, r2, r3, r4, r5) := H
  have A3 := Aside0.mk A30
  clear A30
  replace H := Option.bind_eq_some_iff.mp H
  obtain ⟨⟨t209, t210⟩, A40, H⟩ := H
  replace H : (if t209 = 0 then ((spec_l1Rd_pick.f k t204 t210 16).bind fun bt211 => (spec_DrawRestDo.j0 k (wrap64 (bt211.1 - 1)) t204 bt211.2)) else (spec_DrawRestDo.j0 k (wrap64 (1 + t207)) t204 t210)) = some (r1, r2, r3, r4, r5) := H
  have A4 := Aside0.mk A40
  clear A40
  have HC5 := Aside0.mk H
  clear H
  go_enter Try.func62, Try.ntmps62
  go_upto_if 16 with (first | ((with_reducible refine gate_dst (N := 3) rfl ?_); refine sqx 3 #[.int .i64 0, .int .i64 0] 26 ?_; intro gb202 hg w6 hbox hb; have BK202 := Aside0.mk (hbox); have GW202 := sqg HB hg; have GE202 := sqg HB hg; replace HB := sqs HB hb; clear hb hbox hg) | ((with_reducible refine gate_dst (N := 4) rfl ?_); refine sqx 4 #[.int .i64 0, .int .i64 0] 26 ?_; intro gb203 hg w7 hbox hb; have BK203 := Aside0.mk (hbox); have GW203 := sqg HB hg; have GE203 := sqg HB hg; have NB202_203 := sqn BK202 hg; have NB203_202 := sqm BK202 hg; replace BK202 := sqb BK202 hb; replace HB := sqs HB hb; clear hb hbox hg) | ((with_reducible refine gate_callee (f := 92) rfl ?_); refine sqL (some 10) Try.func92 #[.slice A0 l0.length c0] ?_; (with_reducible refine (spec_l1Open.calls _ _ l0 t204 t205 w _ ?side1 ?side2 ?side3 A2.out).mono ?_); (case side1 => repeat (first | (with_reducible first | exact HB.out | apply below_alloc | apply pw_below_drewN | apply below_drew1 | refine below_set ?_ GE202.out | refine below_set ?_ GE203.out) | exact HB.out)); (case side2 => exact HR0.out); (case side3 => exact HC0.out); rintro e w8 ⟨g206, rfl, hi, hb, hb2⟩; refine ⟨_, rfl, ?_⟩; have n0_ := Aside0.mk (blk_below (g := gb202) (o := .cells #[.int .i64 0, .int .i64 0] 26 (0, 0)) (by refine sqt ?_; exact BK202.out) hb2); have n1_ := Aside0.mk (blk_below (g := gb203) (o := .cells #[.int .i64 0, .int .i64 0] 26 (0, 0)) (by refine sqt ?_; exact BK203.out) hb2); have n2_ := Aside0.mk (hb); have n3_ := Aside0.mk (hi); have n4_ := Aside0.mk (IsS161.ne_blk hi (blk_below (g := gb202) (o := .cells #[.int .i64 0, .int .i64 0] 26 (0, 0)) (by refine sqt ?_; exact BK202.out) hb2) (by decide)); have n5_ := Aside0.mk (Ne.symm (IsS161.ne_blk hi (blk_below (g := gb202) (o := .cells #[.int .i64 0, .int .i64 0] 26 (0, 0)) (by refine sqt ?_; exact BK202.out) hb2) (by decide))); have n6_ := Aside0.mk (IsS161.ne_blk hi (blk_below (g := gb203) (o := .cells #[.int .i64 0, .int .i64 0] 26 (0, 0)) (by refine sqt ?_; exact BK203.out) hb2) (by decide)); have n7_ := Aside0.mk (Ne.symm (IsS161.ne_blk hi (blk_below (g := gb203) (o := .cells #[.int .i64 0, .int .i64 0] 26 (0, 0)) (by refine sqt ?_; exact BK203.out) hb2) (by decide))); clear BK202; clear BK203; clear HB; have BK202 := n0_; have BK203 := n1_; have HB := n2_; have HI206 := n3_; have NB206_202 := n4_; have NB202_206 := n5_; have NB206_203 := n6_; have NB203_206 := n7_; clear n0_ n1_ n2_ n3_ n4_ n5_ n6_ n7_; (try clear hb); (try clear hb2); (try clear hk); (try clear hi)) | ((with_reducible refine gate_callee (f := 109) rfl ?_); refine sqL (some 12) Try.func109 #[.pointer (some ⟨g206, 0, none⟩), .int .i64 13] ?_; (with_reducible refine (spec_l1Rd_pick.calls k g206 t204 t205 13 t207 t208 w _ ?side1 ?side2 A3.out).mono ?_); (case side1 => repeat (first | (with_reducible first | exact HI206.out | apply IsS161.alloc | apply IsS161.drewN | apply IsS161.drew | apply IsS161.set_1 | refine IsS161.far ?_ NB206_202.out _ | refine IsS161.far ?_ NB206_203.out _) | exact HI206.out)); (case side2 => repeat (first | (with_reducible first | exact HB.out | apply below_alloc | apply pw_below_drewN | apply below_drew1 | refine below_set ?_ (IsS161.ge HI206.out) | refine below_set ?_ GE202.out | refine below_set ?_ GE203.out) | exact HB.out)); rintro e w9 ⟨rfl, hi, hb, hk⟩; refine ⟨_, rfl, ?_⟩; have n0_ := Aside0.mk (KeepBut.blk hk (g' := gb202) (o := .cells #[.int .i64 0, .int .i64 0] 26 (0, 0)) (by refine sqt ?_; exact BK202.out) NB202_206.out (by simp)); have n1_ := Aside0.mk (KeepBut.blk hk (g' := gb203) (o := .cells #[.int .i64 0, .int .i64 0] 26 (0, 0)) (by refine sqt ?_; exact BK203.out) NB203_206.out (by simp)); have n2_ := Aside0.mk (hb); have n3_ := Aside0.mk (hi); clear BK202; clear BK203; clear HB; clear HI206; have BK202 := n0_; have BK203 := n1_; have HB := n2_; have HI206 := n3_; clear n0_ n1_ n2_ n3_; (try clear hb); (try clear hb2); (try clear hk); (try clear hi)) | ((with_reducible refine gate_callee (f := 109) rfl ?_); refine sqL (some 15) Try.func109 #[.pointer (some ⟨g206, 0, none⟩), .int .i64 30] ?_; (with_reducible refine (spec_l1Rd_pick.calls k g206 t204 t208 30 t209 t210 w _ ?side1 ?side2 A4.out).mono ?_); (case side1 => repeat (first | (with_reducible first | exact HI206.out | apply IsS161.alloc | apply IsS161.drewN | apply IsS161.drew | apply IsS161.set_1 | refine IsS161.far ?_ NB206_202.out _ | refine IsS161.far ?_ NB206_203.out _) | exact HI206.out)); (case side2 => repeat (first | (with_reducible first | exact HB.out | apply below_alloc | apply pw_below_drewN | apply below_drew1 | refine below_set ?_ (IsS161.ge HI206.out) | refine below_set ?_ GE202.out | refine below_set ?_ GE203.out) | exact HB.out)); rintro e w10 ⟨rfl, hi, hb, hk⟩; refine ⟨_, rfl, ?_⟩; have n0_ := Aside0.mk (KeepBut.blk hk (g' := gb202) (o := .cells #[.int .i64 0, .int .i64 0] 26 (0, 0)) (by refine sqt ?_; exact BK202.out) NB202_206.out (by simp)); have n1_ := Aside0.mk (KeepBut.blk hk (g' := gb203) (o := .cells #[.int .i64 0, .int .i64 0] 26 (0, 0)) (by refine sqt ?_; exact BK203.out) NB203_206.out (by simp)); have n2_ := Aside0.mk (hb); have n3_ := Aside0.mk (hi); clear BK202; clear BK203; clear HB; clear HI206; have BK202 := n0_; have BK203 := n1_; have HB := n2_; have HI206 := n3_; clear n0_ n1_ n2_ n3_; (try clear hb); (try clear hb2); (try clear hk); (try clear hi)))
  (try simp only [Act.put, List.setIfInBounds_toArray, List.set_cons_zero, List.set_cons_succ])
  go_cut [6] (fun v6 wc => ∃ (kq : Nat) (x6_4 : Int) (x207001_4 : Int), v6 = .int .i64 x6_4 ∧ Aside0 (spec_DrawRestDo.j0 kq x6_4 t204 x207001_4 = some (r1, r2, r3, r4, r5)) ∧ Aside0 (kq ≤ k) ∧ Aside0 (wc.heap[gb202]? = some (.cells #[.int .i64 0, .int .i64 0] 26 (0, 0))) ∧ Aside0 (wc.heap[gb203]? = some (.cells #[.int .i64 0, .int .i64 0] 26 (0, 0))) ∧ Aside0 (IsS161 w wc g206 t204 x207001_4) ∧ Aside0 (Below w.heap.size w wc))
  case first =>
    have H := HC5.out
    clear HC5
    by_cases c11 : t209 = 0
    · rw [if_pos c11] at H
      have c11b0 : (t209 == 0) = true := beq_iff_eq.mpr c11
      have c11b1 : (t209 != 0) = false := bne_eq_false_iff_eq.mpr c11
      clear c11
      (first | rw [c11b0] | (simp only [i64_w, i32_w]; rw [c11b0]) | skip)
      replace H := Option.bind_eq_some_iff.mp H
      obtain ⟨⟨t211, t212⟩, A120, H⟩ := H
      replace H : (spec_DrawRestDo.j0 k (wrap64 (t211 - 1)) t204 t212) = some (r1, r2, r3, r4, r5) := H
      have A12 := Aside0.mk A120
      clear A120
      have H' := Aside0.mk H
      clear H
      go_wp2_with (first | ((with_reducible refine gate_callee (f := 109) rfl ?_); refine sqL (some 18) Try.func109 #[.pointer (some ⟨g206, 0, none⟩), .int .i64 16] ?_; (with_reducible refine (spec_l1Rd_pick.calls k g206 t204 t210 16 t211 t212 w _ ?side1 ?side2 A12.out).mono ?_); (case side1 => repeat (first | (with_reducible first | exact HI206.out | apply IsS161.alloc | apply IsS161.drewN | apply IsS161.drew | apply IsS161.set_1 | refine IsS161.far ?_ NB206_202.out _ | refine IsS161.far ?_ NB206_203.out _) | exact HI206.out)); (case side2 => repeat (first | (with_reducible first | exact HB.out | apply below_alloc | apply pw_below_drewN | apply below_drew1 | refine below_set ?_ (IsS161.ge HI206.out) | refine below_set ?_ GE202.out | refine below_set ?_ GE203.out) | exact HB.out)); rintro e w13 ⟨rfl, hi, hb, hk⟩; refine ⟨_, rfl, ?_⟩; have n0_ := Aside0.mk (KeepBut.blk hk (g' := gb202) (o := .cells #[.int .i64 0, .int .i64 0] 26 (0, 0)) (by refine sqt ?_; exact BK202.out) NB202_206.out (by simp)); have n1_ := Aside0.mk (KeepBut.blk hk (g' := gb203) (o := .cells #[.int .i64 0, .int .i64 0] 26 (0, 0)) (by refine sqt ?_; exact BK203.out) NB203_206.out (by simp)); have n2_ := Aside0.mk (hb); have n3_ := Aside0.mk (hi); clear BK202; clear BK203; clear HB; clear HI206; have BK202 := n0_; have BK203 := n1_; have HB := n2_; have HI206 := n3_; clear n0_ n1_ n2_ n3_; (try clear hb); (try clear hb2); (try clear hk); (try clear hi)))
      go_meet
      case rel => exact ⟨_, (wrap64 (t211 - 1)), (t212), (by first | rfl | (simp; done) | (simp [*]; done)), H', ⟨by first | omega | exact Nat.le_refl _⟩, sqk BK202, sqk BK203, ⟨by repeat (first | (with_reducible first | exact HI206.out | apply IsS161.alloc | apply IsS161.drewN | apply IsS161.drew | apply IsS161.set_1 | refine IsS161.far ?_ NB206_202.out _ | refine IsS161.far ?_ NB206_203.out _) | exact HI206.out)⟩, ⟨by repeat (first | (with_reducible first | exact HB.out | apply below_alloc | apply pw_below_drewN | apply below_drew1 | refine below_set ?_ (IsS161.ge HI206.out) | refine below_set ?_ GE202.out | refine below_set ?_ GE203.out) | exact HB.out)⟩⟩
    · rw [if_neg c11] at H
      have c11b0 : (t209 == 0) = false := beq_eq_false_iff_ne.mpr c11
      have c11b1 : (t209 != 0) = true := bne_iff_ne.mpr c11
      (first | rw [c11b0] | (simp only [i64_w, i32_w]; rw [c11b0]) | skip)
      have H' := Aside0.mk H
      clear H
      go_wp2
      go_meet
      case rel => exact ⟨_, (wrap64 (1 + t207)), (t210), (by first | rfl | (simp; done) | (simp [*]; done)), H', ⟨by first | omega | exact Nat.le_refl _⟩, sqk BK202, sqk BK203, ⟨by repeat (first | (with_reducible first | exact HI206.out | apply IsS161.alloc | apply IsS161.drewN | apply IsS161.drew | apply IsS161.set_1 | refine IsS161.far ?_ NB206_202.out _ | refine IsS161.far ?_ NB206_203.out _) | exact HI206.out)⟩, ⟨by repeat (first | (with_reducible first | exact HB.out | apply below_alloc | apply pw_below_drewN | apply below_drew1 | refine below_set ?_ (IsS161.ge HI206.out) | refine below_set ?_ GE202.out | refine below_set ?_ GE203.out) | exact HB.out)⟩⟩
  case rest =>
    clear HC5
    obtain ⟨kq, x6_4, x207001_4, rfl, HA, HJ4, BK202, BK203, HI206, HB⟩ := hcut
    cases kq with
    | zero => exact absurd HA.out (by simp [spec_DrawRestDo.j0])
    | succ kj4 =>
      have H := HA.out
      clear HA
      simp only [spec_DrawRestDo.j0] at H
      replace H := Option.bind_eq_some_iff.mp H
      obtain ⟨⟨t213, t214, t215⟩, A140, H⟩ := H
      replace H : ((spec_l9Wild.f kj4 t204 t215).bind fun bt217 => (if x6_4 = 9 then ((spec_l1Rd_pick.f kj4 t204 bt217.2.2 3).bind fun bt221 => (if bt221.1 > 0 then ((spec_l1Rd_pick.f kj4 t204 bt221.2 34).bind fun bt223 => (some (x6_4, t213, t214, 0, wrap64 (bt223.1 - 1)))) else (some (x6_4, t213, t214, bt217.1, bt217.2.1)))) else (some (x6_4, t213, t214, bt217.1, bt217.2.1)))) = some (r1, r2, r3, r4, r5) := H
      have A14 := Aside0.mk A140
      clear A140
      replace H := Option.bind_eq_some_iff.mp H
      obtain ⟨⟨t217, t218, t219⟩, A150, H⟩ := H
      replace H : (if x6_4 = 9 then ((spec_l1Rd_pick.f kj4 t204 t219 3).bind fun bt221 => (if bt221.1 > 0 then ((spec_l1Rd_pick.f kj4 t204 bt221.2 34).bind fun bt223 => (some (x6_4, t213, t214, 0, wrap64 (bt223.1 - 1)))) else (some (x6_4, t213, t214, t217, t218)))) else (some (x6_4, t213, t214, t217, t218))) = some (r1, r2, r3, r4, r5) := H
      have A15 := Aside0.mk A150
      clear A150
      by_cases c16 : x6_4 = 9
      · rw [if_pos c16] at H
        have c16b0 : (x6_4 == 9) = true := beq_iff_eq.mpr c16
        have c16b1 : (x6_4 != 9) = false := bne_eq_false_iff_eq.mpr c16
        clear c16
        replace H := Option.bind_eq_some_iff.mp H
        obtain ⟨⟨t221, t222⟩, A170, H⟩ := H
        replace H : (if t221 > 0 then ((spec_l1Rd_pick.f kj4 t204 t222 34).bind fun bt223 => (some (x6_4, t213, t214, 0, wrap64 (bt223.1 - 1)))) else (some (x6_4, t213, t214, t217, t218))) = some (r1, r2, r3, r4, r5) := H
        have A17 := Aside0.mk A170
        clear A170
        by_cases c18 : t221 > 0
        · rw [if_pos c18] at H
          have c18b0 : decide (0 < t221) = true := decide_eq_true c18
          clear c18
          replace H := Option.bind_eq_some_iff.mp H
          obtain ⟨⟨t223, t224⟩, A190, H⟩ := H
          replace H : (some (x6_4, t213, t214, 0, wrap64 (t223 - 1))) = some (r1, r2, r3, r4, r5) := H
          have A19 := Aside0.mk A190
          clear A190
          simp only [Option.some.injEq, Prod.mk.injEq] at H
          obtain ⟨rfl, rfl, rfl, rfl, rfl⟩ := H
          try go_wp2_with (first | ((with_reducible refine gate_callee (f := 94) rfl ?_); refine sqL (some 21) Try.func94 #[.pointer (some ⟨g206, 0, none⟩)] ?_; (with_reducible refine (spec_l9Wild.calls kj4 g206 t204 x207001_4 t213 t214 t215 w _ ?side1 ?side2 A14.out).mono ?_); (case side1 => repeat (first | (with_reducible first | exact HI206.out | apply IsS161.alloc | apply IsS161.drewN | apply IsS161.drew | apply IsS161.set_1 | refine IsS161.far ?_ NB206_202.out _ | refine IsS161.far ?_ NB206_203.out _) | exact HI206.out)); (case side2 => repeat (first | (with_reducible first | exact HB.out | apply below_alloc | apply pw_below_drewN | apply below_drew1 | refine below_set ?_ (IsS161.ge HI206.out) | refine below_set ?_ GE202.out | refine below_set ?_ GE203.out) | exact HB.out)); rintro e w20 ⟨rfl, hi, hb, hk⟩; refine ⟨_, rfl, ?_⟩; have n0_ := Aside0.mk (KeepBut.blk hk (g' := gb202) (o := .cells #[.int .i64 0, .int .i64 0] 26 (0, 0)) (by refine sqt ?_; exact BK202.out) NB202_206.out (by simp)); have n1_ := Aside0.mk (KeepBut.blk hk (g' := gb203) (o := .cells #[.int .i64 0, .int .i64 0] 26 (0, 0)) (by refine sqt ?_; exact BK203.out) NB203_206.out (by simp)); have n2_ := Aside0.mk (hb); have n3_ := Aside0.mk (hi); clear BK202; clear BK203; clear HB; clear HI206; have BK202 := n0_; have BK203 := n1_; have HB := n2_; have HI206 := n3_; clear n0_ n1_ n2_ n3_; (try clear hb); (try clear hb2); (try clear hk); (try clear hi)) | ((with_reducible refine gate_dst (N := 7) rfl ?_); refine sqx 7 #[.int .i64 0, .int .i64 0] 26 ?_; intro gb216 hg w21 hbox hb; have n0_ := sqb BK202 hb; have n1_ := sqb BK203 hb; have n2_ := Aside0.mk (IsS161.below (by repeat (first | (with_reducible first | exact HI206.out | apply IsS161.alloc | apply IsS161.drewN | apply IsS161.drew | apply IsS161.set_1 | refine IsS161.far ?_ NB206_202.out _ | refine IsS161.far ?_ NB206_203.out _) | exact HI206.out)) hb); have n3_ := Aside0.mk (below_step (by repeat (first | (with_reducible first | exact HB.out | apply below_alloc | apply pw_below_drewN | apply below_drew1 | refine below_set ?_ (IsS161.ge HI206.out) | refine below_set ?_ GE202.out | refine below_set ?_ GE203.out) | exact HB.out)) hb); have n4_ := Aside0.mk (hbox); have n5_ := Aside0.mk ((by rw [hg]; exact (below_size (by repeat (first | (with_reducible first | exact HB.out | apply below_alloc | apply pw_below_drewN | apply below_drew1 | refine below_set ?_ (IsS161.ge HI206.out) | refine below_set ?_ GE202.out | refine below_set ?_ GE203.out) | exact HB.out))) : w.heap.size ≤ gb216)); have n6_ := Aside0.mk ((by rw [hg]; exact (below_size (by repeat (first | (with_reducible first | exact HB.out | apply below_alloc | apply pw_below_drewN | apply below_drew1 | refine below_set ?_ (IsS161.ge HI206.out) | refine below_set ?_ GE202.out | refine below_set ?_ GE203.out) | exact HB.out))) : w.heap.size ≤ gb216)); have n7_ := sqn BK202 hg; have n8_ := sqm BK202 hg; have n9_ := sqn BK203 hg; have n10_ := sqm BK203 hg; have n11_ := Aside0.mk ((by rw [hg]; exact Nat.ne_of_lt (IsS161.lt (show IsS161 w _ g206 t204 t215 from by repeat (first | (with_reducible first | exact HI206.out | apply IsS161.alloc | apply IsS161.drewN | apply IsS161.drew | apply IsS161.set_1 | refine IsS161.far ?_ NB206_202.out _ | refine IsS161.far ?_ NB206_203.out _) | exact HI206.out))) : g206 ≠ gb216)); have n12_ := Aside0.mk ((by rw [hg]; exact Nat.ne_of_gt (IsS161.lt (show IsS161 w _ g206 t204 t215 from by repeat (first | (with_reducible first | exact HI206.out | apply IsS161.alloc | apply IsS161.drewN | apply IsS161.drew | apply IsS161.set_1 | refine IsS161.far ?_ NB206_202.out _ | refine IsS161.far ?_ NB206_203.out _) | exact HI206.out))) : gb216 ≠ g206)); clear BK202; clear BK203; clear HI206; clear HB; have BK202 := n0_; have BK203 := n1_; have HI206 := n2_; have HB := n3_; have BK216 := n4_; have GW216 := n5_; have GE216 := n6_; have NB202_216 := n7_; have NB216_202 := n8_; have NB203_216 := n9_; have NB216_203 := n10_; have NB206_216 := n11_; have NB216_206 := n12_; clear n0_ n1_ n2_ n3_ n4_ n5_ n6_ n7_ n8_ n9_ n10_ n11_ n12_; clear hb hbox hg; have hnb22 := NB216_202.out; have hnc22 := NB202_216.out; have hnb23 := NB216_203.out; have hnc23 := NB203_216.out; have hnb24 := NB216_206.out; have hnc24 := NB206_216.out; obtain ⟨hcz25_0, hcz25_1, hfz25_0, hfz25_1⟩ := sqc2 BK216) | ((with_reducible refine gate_callee (f := 94) rfl ?_); refine sqL (some 23) Try.func94 #[.pointer (some ⟨g206, 0, none⟩)] ?_; (with_reducible refine (spec_l9Wild.calls kj4 g206 t204 t215 t217 t218 t219 w _ ?side1 ?side2 A15.out).mono ?_); (case side1 => repeat (first | (with_reducible first | exact HI206.out | apply IsS161.alloc | apply IsS161.drewN | apply IsS161.drew | apply IsS161.set_1 | refine IsS161.far ?_ NB206_202.out _ | refine IsS161.far ?_ NB206_203.out _ | refine IsS161.far ?_ NB206_216.out _) | exact HI206.out)); (case side2 => repeat (first | (with_reducible first | exact HB.out | apply below_alloc | apply pw_below_drewN | apply below_drew1 | refine below_set ?_ (IsS161.ge HI206.out) | refine below_set ?_ GE202.out | refine below_set ?_ GE203.out | refine below_set ?_ GE216.out) | exact HB.out)); rintro e w26 ⟨rfl, hi, hb, hk⟩; refine ⟨_, rfl, ?_⟩; have n0_ := Aside0.mk (KeepBut.blk hk (g' := gb202) (o := .cells #[.int .i64 0, .int .i64 0] 26 (0, 0)) (by refine sqt ?_; refine blk_far ?_ NB202_216.out _; refine sqt ?_; refine blk_far ?_ NB202_216.out _; refine sqt ?_; exact BK202.out) NB202_206.out (by simp)); have n1_ := Aside0.mk (KeepBut.blk hk (g' := gb203) (o := .cells #[.int .i64 0, .int .i64 0] 26 (0, 0)) (by refine sqt ?_; refine blk_far ?_ NB203_216.out _; refine sqt ?_; refine blk_far ?_ NB203_216.out _; refine sqt ?_; exact BK203.out) NB203_206.out (by simp)); have n2_ := Aside0.mk (KeepBut.blk hk (g' := gb216) (o := .cells #[.int .i64 t213, .int .i64 t214] 26 (0, 0)) (by refine sqt ?_; refine blk_put (cs := #[.int .i64 t213, .int .i64 0]) ?_ 1 _ rfl; refine sqt ?_; refine blk_put (cs := #[.int .i64 0, .int .i64 0]) ?_ 0 _ rfl; refine sqt ?_; exact BK216.out) NB216_206.out (by simp)); have n3_ := Aside0.mk (hb); have n4_ := Aside0.mk (hi); clear BK202; clear BK203; clear BK216; clear HB; clear HI206; have BK202 := n0_; have BK203 := n1_; have BK216 := n2_; have HB := n3_; have HI206 := n4_; clear n0_ n1_ n2_ n3_ n4_; (try clear hb); (try clear hb2); (try clear hk); (try clear hi)) | ((with_reducible refine gate_dst (N := 8) rfl ?_); refine sqx 8 #[.int .i64 0, .int .i64 0] 26 ?_; intro gb220 hg w27 hbox hb; have n0_ := sqb BK202 hb; have n1_ := sqb BK203 hb; have n2_ := Aside0.mk (IsS161.below (by repeat (first | (with_reducible first | exact HI206.out | apply IsS161.alloc | apply IsS161.drewN | apply IsS161.drew | apply IsS161.set_1 | refine IsS161.far ?_ NB206_202.out _ | refine IsS161.far ?_ NB206_203.out _ | refine IsS161.far ?_ NB206_216.out _) | exact HI206.out)) hb); have n3_ := sqb BK216 hb; have n4_ := Aside0.mk (below_step (by repeat (first | (with_reducible first | exact HB.out | apply below_alloc | apply pw_below_drewN | apply below_drew1 | refine below_set ?_ (IsS161.ge HI206.out) | refine below_set ?_ GE202.out | refine below_set ?_ GE203.out | refine below_set ?_ GE216.out) | exact HB.out)) hb); have n5_ := Aside0.mk (hbox); have n6_ := Aside0.mk ((by rw [hg]; exact (below_size (by repeat (first | (with_reducible first | exact HB.out | apply below_alloc | apply pw_below_drewN | apply below_drew1 | refine below_set ?_ (IsS161.ge HI206.out) | refine below_set ?_ GE202.out | refine below_set ?_ GE203.out | refine below_set ?_ GE216.out) | exact HB.out))) : w.heap.size ≤ gb220)); have n7_ := Aside0.mk ((by rw [hg]; exact (below_size (by repeat (first | (with_reducible first | exact HB.out | apply below_alloc | apply pw_below_drewN | apply below_drew1 | refine below_set ?_ (IsS161.ge HI206.out) | refine below_set ?_ GE202.out | refine below_set ?_ GE203.out | refine below_set ?_ GE216.out) | exact HB.out))) : w.heap.size ≤ gb220)); have n8_ := sqn BK202 hg; have n9_ := sqm BK202 hg; have n10_ := sqn BK203 hg; have n11_ := sqm BK203 hg; have n12_ := sqn BK216 hg; have n13_ := sqm BK216 hg; have n14_ := Aside0.mk ((by rw [hg]; exact Nat.ne_of_lt (IsS161.lt (show IsS161 w _ g206 t204 t219 from by repeat (first | (with_reducible first | exact HI206.out | apply IsS161.alloc | apply IsS161.drewN | apply IsS161.drew | apply IsS161.set_1 | refine IsS161.far ?_ NB206_202.out _ | refine IsS161.far ?_ NB206_203.out _ | refine IsS161.far ?_ NB206_216.out _) | exact HI206.out))) : g206 ≠ gb220)); have n15_ := Aside0.mk ((by rw [hg]; exact Nat.ne_of_gt (IsS161.lt (show IsS161 w _ g206 t204 t219 from by repeat (first | (with_reducible first | exact HI206.out | apply IsS161.alloc | apply IsS161.drewN | apply IsS161.drew | apply IsS161.set_1 | refine IsS161.far ?_ NB206_202.out _ | refine IsS161.far ?_ NB206_203.out _ | refine IsS161.far ?_ NB206_216.out _) | exact HI206.out))) : gb220 ≠ g206)); clear BK202; clear BK203; clear HI206; clear BK216; clear HB; have BK202 := n0_; have BK203 := n1_; have HI206 := n2_; have BK216 := n3_; have HB := n4_; have BK220 := n5_; have GW220 := n6_; have GE220 := n7_; have NB202_220 := n8_; have NB220_202 := n9_; have NB203_220 := n10_; have NB220_203 := n11_; have NB216_220 := n12_; have NB220_216 := n13_; have NB206_220 := n14_; have NB220_206 := n15_; clear n0_ n1_ n2_ n3_ n4_ n5_ n6_ n7_ n8_ n9_ n10_ n11_ n12_ n13_ n14_ n15_; clear hb hbox hg; have hnb28 := NB220_202.out; have hnc28 := NB202_220.out; have hnb29 := NB220_203.out; have hnc29 := NB203_220.out; have hnb30 := NB220_216.out; have hnc30 := NB216_220.out; have hnb31 := NB220_206.out; have hnc31 := NB206_220.out; obtain ⟨hcz32_0, hcz32_1, hfz32_0, hfz32_1⟩ := sqc2 BK220) | (go_at_call 109; (with_reducible refine (spec_l1Rd_pick.calls kj4 g206 t204 t219 3 t221 t222 w _ ?side1 ?side2 A17.out).mono ?_); (case side1 => repeat (first | (with_reducible first | exact HI206.out | apply IsS161.alloc | apply IsS161.drewN | apply IsS161.drew | apply IsS161.set_1 | refine IsS161.far ?_ NB206_202.out _ | refine IsS161.far ?_ NB206_203.out _ | refine IsS161.far ?_ NB206_216.out _ | refine IsS161.far ?_ NB206_220.out _) | exact HI206.out)); (case side2 => repeat (first | (with_reducible first | exact HB.out | apply below_alloc | apply pw_below_drewN | apply below_drew1 | refine below_set ?_ (IsS161.ge HI206.out) | refine below_set ?_ GE202.out | refine below_set ?_ GE203.out | refine below_set ?_ GE216.out | refine below_set ?_ GE220.out) | exact HB.out)); rintro e w33 ⟨rfl, hi, hb, hk⟩; have n0_ := Aside0.mk (KeepBut.blk hk (g' := gb202) (o := .cells #[.int .i64 0, .int .i64 0] 26 (0, 0)) (by refine sqt ?_; refine blk_far ?_ NB202_220.out _; refine sqt ?_; refine blk_far ?_ NB202_220.out _; refine sqt ?_; exact BK202.out) NB202_206.out (by simp)); have n1_ := Aside0.mk (KeepBut.blk hk (g' := gb203) (o := .cells #[.int .i64 0, .int .i64 0] 26 (0, 0)) (by refine sqt ?_; refine blk_far ?_ NB203_220.out _; refine sqt ?_; refine blk_far ?_ NB203_220.out _; refine sqt ?_; exact BK203.out) NB203_206.out (by simp)); have n2_ := Aside0.mk (KeepBut.blk hk (g' := gb216) (o := .cells #[.int .i64 t213, .int .i64 t214] 26 (0, 0)) (by refine sqt ?_; refine blk_far ?_ NB216_220.out _; refine sqt ?_; refine blk_far ?_ NB216_220.out _; refine sqt ?_; exact BK216.out) NB216_206.out (by simp)); have n3_ := Aside0.mk (KeepBut.blk hk (g' := gb220) (o := .cells #[.int .i64 t217, .int .i64 t218] 26 (0, 0)) (by refine sqt ?_; refine blk_put (cs := #[.int .i64 t217, .int .i64 0]) ?_ 1 _ rfl; refine sqt ?_; refine blk_put (cs := #[.int .i64 0, .int .i64 0]) ?_ 0 _ rfl; refine sqt ?_; exact BK220.out) NB220_206.out (by simp)); have n4_ := Aside0.mk (hb); have n5_ := Aside0.mk (hi); clear BK202; clear BK203; clear BK216; clear BK220; clear HB; clear HI206; have BK202 := n0_; have BK203 := n1_; have BK216 := n2_; have BK220 := n3_; have HB := n4_; have HI206 := n5_; clear n0_ n1_ n2_ n3_ n4_ n5_; (try clear hb); (try clear hb2); (try clear hk); (try clear hi)) | ((with_reducible refine gate_callee (f := 109) rfl ?_); refine sqL (some 32) Try.func109 #[.pointer (some ⟨g206, 0, none⟩), .int .i64 34] ?_; (with_reducible refine (spec_l1Rd_pick.calls kj4 g206 t204 t222 34 t223 t224 w _ ?side1 ?side2 A19.out).mono ?_); (case side1 => repeat (first | (with_reducible first | exact HI206.out | apply IsS161.alloc | apply IsS161.drewN | apply IsS161.drew | apply IsS161.set_1 | refine IsS161.far ?_ NB206_202.out _ | refine IsS161.far ?_ NB206_203.out _ | refine IsS161.far ?_ NB206_216.out _ | refine IsS161.far ?_ NB206_220.out _) | exact HI206.out)); (case side2 => repeat (first | (with_reducible first | exact HB.out | apply below_alloc | apply pw_below_drewN | apply below_drew1 | refine below_set ?_ (IsS161.ge HI206.out) | refine below_set ?_ GE202.out | refine below_set ?_ GE203.out | refine below_set ?_ GE216.out | refine below_set ?_ GE220.out) | exact HB.out)); rintro e w34 ⟨rfl, hi, hb, hk⟩; refine ⟨_, rfl, ?_⟩; have n0_ := Aside0.mk (KeepBut.blk hk (g' := gb202) (o := .cells #[.int .i64 0, .int .i64 0] 26 (0, 0)) (by refine sqt ?_; exact BK202.out) NB202_206.out (by simp)); have n1_ := Aside0.mk (KeepBut.blk hk (g' := gb203) (o := .cells #[.int .i64 0, .int .i64 0] 26 (0, 0)) (by refine sqt ?_; exact BK203.out) NB203_206.out (by simp)); have n2_ := Aside0.mk (KeepBut.blk hk (g' := gb216) (o := .cells #[.int .i64 t213, .int .i64 t214] 26 (0, 0)) (by refine sqt ?_; exact BK216.out) NB216_206.out (by simp)); have n3_ := Aside0.mk (KeepBut.blk hk (g' := gb220) (o := .cells #[.int .i64 t217, .int .i64 t218] 26 (0, 0)) (by refine sqt ?_; exact BK220.out) NB220_206.out (by simp)); have n4_ := Aside0.mk (hb); have n5_ := Aside0.mk (hi); clear BK202; clear BK203; clear BK216; clear BK220; clear HB; clear HI206; have BK202 := n0_; have BK203 := n1_; have BK216 := n2_; have BK220 := n3_; have HB := n4_; have HI206 := n5_; clear n0_ n1_ n2_ n3_ n4_ n5_; (try clear hb); (try clear hb2); (try clear hk); (try clear hi); obtain ⟨hcz35_0, hcz35_1, hfz35_0, hfz35_1⟩ := sqc2 BK220))
          have n0_ : Aside0 (((w34.setCell ⟨gb220, 0, none⟩ (.int .i64 0)).setCell ⟨gb220, 1, none⟩ (.int .i64 (wrap64 (t223 - 1)))).heap[gb202]? = some (.cells #[.int .i64 0, .int .i64 0] 26 (0, 0))) := ⟨by refine sqt ?_; refine blk_far ?_ NB202_220.out _; refine sqt ?_; refine blk_far ?_ NB202_220.out _; refine sqt ?_; exact BK202.out⟩
          have n1_ : Aside0 (((w34.setCell ⟨gb220, 0, none⟩ (.int .i64 0)).setCell ⟨gb220, 1, none⟩ (.int .i64 (wrap64 (t223 - 1)))).heap[gb203]? = some (.cells #[.int .i64 0, .int .i64 0] 26 (0, 0))) := ⟨by refine sqt ?_; refine blk_far ?_ NB203_220.out _; refine sqt ?_; refine blk_far ?_ NB203_220.out _; refine sqt ?_; exact BK203.out⟩
          have n2_ : Aside0 (((w34.setCell ⟨gb220, 0, none⟩ (.int .i64 0)).setCell ⟨gb220, 1, none⟩ (.int .i64 (wrap64 (t223 - 1)))).heap[gb216]? = some (.cells #[.int .i64 t213, .int .i64 t214] 26 (0, 0))) := ⟨by refine sqt ?_; refine blk_far ?_ NB216_220.out _; refine sqt ?_; refine blk_far ?_ NB216_220.out _; refine sqt ?_; exact BK216.out⟩
          have n3_ : Aside0 (((w34.setCell ⟨gb220, 0, none⟩ (.int .i64 0)).setCell ⟨gb220, 1, none⟩ (.int .i64 (wrap64 (t223 - 1)))).heap[gb220]? = some (.cells #[.int .i64 0, .int .i64 (wrap64 (t223 - 1))] 26 (0, 0))) := ⟨by refine sqt ?_; refine blk_put (cs := #[.int .i64 0, .int .i64 t218]) ?_ 1 _ rfl; refine sqt ?_; refine blk_put (cs := #[.int .i64 t217, .int .i64 t218]) ?_ 0 _ rfl; refine sqt ?_; exact BK220.out⟩
          have n4_ : Aside0 (IsS161 w ((w34.setCell ⟨gb220, 0, none⟩ (.int .i64 0)).setCell ⟨gb220, 1, none⟩ (.int .i64 (wrap64 (t223 - 1)))) g206 t204 t224) := ⟨by repeat (first | (with_reducible first | exact HI206.out | apply IsS161.alloc | apply IsS161.drewN | apply IsS161.drew | apply IsS161.set_1 | refine IsS161.far ?_ NB206_202.out _ | refine IsS161.far ?_ NB206_203.out _ | refine IsS161.far ?_ NB206_216.out _ | refine IsS161.far ?_ NB206_220.out _) | exact HI206.out)⟩
          have n5_ : Aside0 (Below w.heap.size w ((w34.setCell ⟨gb220, 0, none⟩ (.int .i64 0)).setCell ⟨gb220, 1, none⟩ (.int .i64 (wrap64 (t223 - 1))))) := ⟨by repeat (first | (with_reducible first | exact HB.out | apply below_alloc | apply pw_below_drewN | apply below_drew1 | refine below_set ?_ (IsS161.ge HI206.out) | refine below_set ?_ GE202.out | refine below_set ?_ GE203.out | refine below_set ?_ GE216.out | refine below_set ?_ GE220.out) | exact HB.out)⟩
          (try clear BK202)
          (try clear BK203)
          (try clear BK216)
          (try clear BK220)
          (try clear HI206)
          (try clear HB)
          generalize ((w34.setCell ⟨gb220, 0, none⟩ (.int .i64 0)).setCell ⟨gb220, 1, none⟩ (.int .i64 (wrap64 (t223 - 1)))) = w36 at n0_ n1_ n2_ n3_ n4_ n5_ ⊢
          have BK202 := n0_
          have BK203 := n1_
          have BK216 := n2_
          have BK220 := n3_
          have HI206 := n4_
          have HB := n5_
          clear n0_ n1_ n2_ n3_ n4_ n5_
          replace BK202 := Aside0.mk (blk_drew BK202.out)
          replace BK203 := Aside0.mk (blk_drew BK203.out)
          replace BK216 := Aside0.mk (blk_drew BK216.out)
          replace BK220 := Aside0.mk (blk_drew BK220.out)
          replace HI206 := Aside0.mk (IsS161.drew HI206.out)
          replace HB := Aside0.mk (below_drew1 HB.out)
          refine start_ (n := 6) (S := fun w' => w'.cell? ⟨gb216, 0, none⟩ = some (.int .i64 t213) ∧ w'.cell? ⟨gb216, 1, none⟩ = some (.int .i64 t214) ∧ w'.cell? ⟨gb220, 0, none⟩ = some (.int .i64 0) ∧ w'.cell? ⟨gb220, 1, none⟩ = some (.int .i64 (wrap64 (t223 - 1)))) (ds := []) #[false, false, false, false, false, false] (by kernel_rfl) rfl rfl ⟨(blk_cell BK216.out 0).trans rfl, (blk_cell BK216.out 1).trans rfl, (blk_cell BK220.out 0).trans rfl, (blk_cell BK220.out 1).trans rfl⟩ (fun hHeld => ?_)
          generalize w36.drew = w37 at BK202 BK203 BK216 BK220 HI206 HB hHeld ⊢
          refine pure_ (i := 0) (N := some 35) (v := ?_) (a' := ?_) #[true, false, false, false, false, false] rfl rfl (by kernel_rfl) (fun _ _ _ h => h) (Or.inl ⟨by rfl, ?_⟩) ?_ ?_
          rotate_left
          · intro w'
            go_simp
            with_reducible rfl
          rotate_left
          · simp only [Act.put, List.setIfInBounds_toArray, List.set_cons_zero, List.set_cons_succ, i64_w, i32_w]
            rfl
          refine pure_ (i := 3) (N := some 2) (v := ?_) (a' := ?_) #[true, false, false, true, false, false] rfl rfl (by kernel_rfl) (fun _ _ _ h => h) (Or.inl ⟨by rfl, ?_⟩) ?_ ?_
          rotate_left
          · intro w'
            go_simp
            with_reducible rfl
          rotate_left
          · simp only [Act.put, List.setIfInBounds_toArray, List.set_cons_zero, List.set_cons_succ, i64_w, i32_w]
            rfl
          refine take_ (i := 1) (N := some 36) (v := ?_) (a' := ?_) #[true, true, false, true, false, false] rfl rfl (by kernel_rfl) (fun _ _ _ h => h) (Or.inl ⟨by rfl, ?_⟩) hHeld ?_ ?_
          rotate_left
          · rintro w' ⟨s0, s1, s2, s3⟩
            go_simp
            with_reducible rfl
          rotate_left
          · simp only [Act.put, List.setIfInBounds_toArray, List.set_cons_zero, List.set_cons_succ, i64_w, i32_w]
            rfl
          refine take_ (i := 2) (N := some 37) (v := ?_) (a' := ?_) #[true, true, true, true, false, false] rfl rfl (by kernel_rfl) (fun _ _ _ h => h) (Or.inl ⟨by rfl, ?_⟩) hHeld ?_ ?_
          rotate_left
          · rintro w' ⟨s0, s1, s2, s3⟩
            go_simp
            with_reducible rfl
          rotate_left
          · simp only [Act.put, List.setIfInBounds_toArray, List.set_cons_zero, List.set_cons_succ, i64_w, i32_w]
            rfl
          refine one_ (i := 4) (N := none) #[true, true, true, true, true, false] rfl rfl (by kernel_rfl) (by decide) (fun K hK => ?_)
          have hs38 : w37.cell? ⟨gb202, 0, none⟩ = some (.int .i64 0) := (blk_cell BK202.out 0).trans rfl
          have hfs38 := blk_frozen BK202.out 0
          have hns38_1 := NB203_202.out
          have hns38_2 := NB216_202.out
          have hns38_3 := NB220_202.out
          have hms38_1 := NB202_203.out
          have hms38_2 := NB202_216.out
          have hms38_3 := NB202_220.out
          have hs39 : w37.cell? ⟨gb202, 1, none⟩ = some (.int .i64 0) := (blk_cell BK202.out 1).trans rfl
          have hfs39 := blk_frozen BK202.out 1
          have hns39_1 := NB203_202.out
          have hns39_2 := NB216_202.out
          have hns39_3 := NB220_202.out
          have hms39_1 := NB202_203.out
          have hms39_2 := NB202_216.out
          have hms39_3 := NB202_220.out
          refine skip_ (w1 := ?_) (by rfl) rfl ?_ ?_
          rotate_left
          · go_simp
            rfl
          refine hK.out _ _ ⟨((cell_far (p := ⟨gb202, _, none⟩) NB216_202.out _).trans (((cell_far (p := ⟨gb202, _, none⟩) NB216_202.out _).trans (hHeld.1)))), ((cell_far (p := ⟨gb202, _, none⟩) NB216_202.out _).trans (((cell_far (p := ⟨gb202, _, none⟩) NB216_202.out _).trans (hHeld.2.1)))), ((cell_far (p := ⟨gb202, _, none⟩) NB220_202.out _).trans (((cell_far (p := ⟨gb202, _, none⟩) NB220_202.out _).trans (hHeld.2.2.1)))), ((cell_far (p := ⟨gb202, _, none⟩) NB220_202.out _).trans (((cell_far (p := ⟨gb202, _, none⟩) NB220_202.out _).trans (hHeld.2.2.2))))⟩ (fun hHeld => ?_)
          clear hK K
          refine one_ (i := 5) (N := none) #[true, true, true, true, true, true] rfl rfl (by kernel_rfl) (by decide) (fun K hK => ?_)
          have hs40 : w37.cell? ⟨gb203, 0, none⟩ = some (.int .i64 0) := (blk_cell BK203.out 0).trans rfl
          have hfs40 := blk_frozen BK203.out 0
          have hns40_0 := NB202_203.out
          have hns40_2 := NB216_203.out
          have hns40_3 := NB220_203.out
          have hms40_0 := NB203_202.out
          have hms40_2 := NB203_216.out
          have hms40_3 := NB203_220.out
          have hs41 : w37.cell? ⟨gb203, 1, none⟩ = some (.int .i64 0) := (blk_cell BK203.out 1).trans rfl
          have hfs41 := blk_frozen BK203.out 1
          have hns41_0 := NB202_203.out
          have hns41_2 := NB216_203.out
          have hns41_3 := NB220_203.out
          have hms41_0 := NB203_202.out
          have hms41_2 := NB203_216.out
          have hms41_3 := NB203_220.out
          refine skip_ (w1 := ?_) (by rfl) rfl ?_ ?_
          rotate_left
          · go_simp
            rfl
          refine hK.out _ _ ⟨((cell_far (p := ⟨gb203, _, none⟩) NB216_203.out _).trans (((cell_far (p := ⟨gb203, _, none⟩) NB216_203.out _).trans (hHeld.1)))), ((cell_far (p := ⟨gb203, _, none⟩) NB216_203.out _).trans (((cell_far (p := ⟨gb203, _, none⟩) NB216_203.out _).trans (hHeld.2.1)))), ((cell_far (p := ⟨gb203, _, none⟩) NB220_203.out _).trans (((cell_far (p := ⟨gb203, _, none⟩) NB220_203.out _).trans (hHeld.2.2.1)))), ((cell_far (p := ⟨gb203, _, none⟩) NB220_203.out _).trans (((cell_far (p := ⟨gb203, _, none⟩) NB220_203.out _).trans (hHeld.2.2.2))))⟩ (fun hHeld => ?_)
          clear hK K
          refine done_ (by kernel_rfl) ?_
          try go_wp2
          refine bodyPost_ret (results_list (rs := [.tmp 2, .cell 3 26, .cell 4 26]) rfl (by simp) (.tmp (.cell gb202 26 #[.int .i64 t213, .int .i64 t214] (0, 0) _ rfl (by refine sqt ?_; refine blk_far ?_ NB202_203.out _; refine sqt ?_; refine blk_far ?_ NB202_203.out _; refine sqt ?_; refine blk_put (cs := #[.int .i64 t213, .int .i64 0]) ?_ 1 _ rfl; refine sqt ?_; refine blk_put (cs := #[.int .i64 0, .int .i64 0]) ?_ 0 _ rfl; refine sqt ?_; exact BK202.out) Try.underlying26 rfl (by kernel_rfl) (.cell gb203 26 #[.int .i64 0, .int .i64 (wrap64 (t223 - 1))] (0, 0) _ rfl (by refine sqt ?_; refine blk_put (cs := #[.int .i64 0, .int .i64 0]) ?_ 1 _ rfl; refine sqt ?_; refine blk_put (cs := #[.int .i64 0, .int .i64 0]) ?_ 0 _ rfl; refine sqt ?_; refine blk_far ?_ NB203_202.out _; refine sqt ?_; refine blk_far ?_ NB203_202.out _; refine sqt ?_; exact BK203.out) Try.underlying26 rfl (by kernel_rfl) .nil)))) rfl ?_
          exact ⟨by first | rfl | (simp [errW_none, errW_some] <;> rfl) | (simp [*, errW_none, errW_some] <;> rfl), by repeat (first | (with_reducible first | exact HB.out | apply below_alloc | apply pw_below_drewN | apply below_drew1 | refine below_set ?_ (IsS161.ge HI206.out) | refine below_set ?_ GE202.out | refine below_set ?_ GE203.out | refine below_set ?_ GE216.out | refine below_set ?_ GE220.out) | exact HB.out)⟩
        · rw [if_neg c18] at H
          have c18b0 : decide (0 < t221) = false := decide_eq_false c18
          clear c18
          simp only [Option.some.injEq, Prod.mk.injEq] at H
          obtain ⟨rfl, rfl, rfl, rfl, rfl⟩ := H
          try go_wp2_with (first | ((with_reducible refine gate_callee (f := 94) rfl ?_); refine sqL (some 21) Try.func94 #[.pointer (some ⟨g206, 0, none⟩)] ?_; (with_reducible refine (spec_l9Wild.calls kj4 g206 t204 x207001_4 t213 t214 t215 w _ ?side1 ?side2 A14.out).mono ?_); (case side1 => repeat (first | (with_reducible first | exact HI206.out | apply IsS161.alloc | apply IsS161.drewN | apply IsS161.drew | apply IsS161.set_1 | refine IsS161.far ?_ NB206_202.out _ | refine IsS161.far ?_ NB206_203.out _) | exact HI206.out)); (case side2 => repeat (first | (with_reducible first | exact HB.out | apply below_alloc | apply pw_below_drewN | apply below_drew1 | refine below_set ?_ (IsS161.ge HI206.out) | refine below_set ?_ GE202.out | refine below_set ?_ GE203.out) | exact HB.out)); rintro e w42 ⟨rfl, hi, hb, hk⟩; refine ⟨_, rfl, ?_⟩; have n0_ := Aside0.mk (KeepBut.blk hk (g' := gb202) (o := .cells #[.int .i64 0, .int .i64 0] 26 (0, 0)) (by refine sqt ?_; exact BK202.out) NB202_206.out (by simp)); have n1_ := Aside0.mk (KeepBut.blk hk (g' := gb203) (o := .cells #[.int .i64 0, .int .i64 0] 26 (0, 0)) (by refine sqt ?_; exact BK203.out) NB203_206.out (by simp)); have n2_ := Aside0.mk (hb); have n3_ := Aside0.mk (hi); clear BK202; clear BK203; clear HB; clear HI206; have BK202 := n0_; have BK203 := n1_; have HB := n2_; have HI206 := n3_; clear n0_ n1_ n2_ n3_; (try clear hb); (try clear hb2); (try clear hk); (try clear hi)) | ((with_reducible refine gate_dst (N := 7) rfl ?_); refine sqx 7 #[.int .i64 0, .int .i64 0] 26 ?_; intro gb216 hg w43 hbox hb; have n0_ := sqb BK202 hb; have n1_ := sqb BK203 hb; have n2_ := Aside0.mk (IsS161.below (by repeat (first | (with_reducible first | exact HI206.out | apply IsS161.alloc | apply IsS161.drewN | apply IsS161.drew | apply IsS161.set_1 | refine IsS161.far ?_ NB206_202.out _ | refine IsS161.far ?_ NB206_203.out _) | exact HI206.out)) hb); have n3_ := Aside0.mk (below_step (by repeat (first | (with_reducible first | exact HB.out | apply below_alloc | apply pw_below_drewN | apply below_drew1 | refine below_set ?_ (IsS161.ge HI206.out) | refine below_set ?_ GE202.out | refine below_set ?_ GE203.out) | exact HB.out)) hb); have n4_ := Aside0.mk (hbox); have n5_ := Aside0.mk ((by rw [hg]; exact (below_size (by repeat (first | (with_reducible first | exact HB.out | apply below_alloc | apply pw_below_drewN | apply below_drew1 | refine below_set ?_ (IsS161.ge HI206.out) | refine below_set ?_ GE202.out | refine below_set ?_ GE203.out) | exact HB.out))) : w.heap.size ≤ gb216)); have n6_ := Aside0.mk ((by rw [hg]; exact (below_size (by repeat (first | (with_reducible first | exact HB.out | apply below_alloc | apply pw_below_drewN | apply below_drew1 | refine below_set ?_ (IsS161.ge HI206.out) | refine below_set ?_ GE202.out | refine below_set ?_ GE203.out) | exact HB.out))) : w.heap.size ≤ gb216)); have n7_ := sqn BK202 hg; have n8_ := sqm BK202 hg; have n9_ := sqn BK203 hg; have n10_ := sqm BK203 hg; have n11_ := Aside0.mk ((by rw [hg]; exact Nat.ne_of_lt (IsS161.lt (show IsS161 w _ g206 t204 t215 from by repeat (first | (with_reducible first | exact HI206.out | apply IsS161.alloc | apply IsS161.drewN | apply IsS161.drew | apply IsS161.set_1 | refine IsS161.far ?_ NB206_202.out _ | refine IsS161.far ?_ NB206_203.out _) | exact HI206.out))) : g206 ≠ gb216)); have n12_ := Aside0.mk ((by rw [hg]; exact Nat.ne_of_gt (IsS161.lt (show IsS161 w _ g206 t204 t215 from by repeat (first | (with_reducible first | exact HI206.out | apply IsS161.alloc | apply IsS161.drewN | apply IsS161.drew | apply IsS161.set_1 | refine IsS161.far ?_ NB206_202.out _ | refine IsS161.far ?_ NB206_203.out _) | exact HI206.out))) : gb216 ≠ g206)); clear BK202; clear BK203; clear HI206; clear HB; have BK202 := n0_; have BK203 := n1_; have HI206 := n2_; have HB := n3_; have BK216 := n4_; have GW216 := n5_; have GE216 := n6_; have NB202_216 := n7_; have NB216_202 := n8_; have NB203_216 := n9_; have NB216_203 := n10_; have NB206_216 := n11_; have NB216_206 := n12_; clear n0_ n1_ n2_ n3_ n4_ n5_ n6_ n7_ n8_ n9_ n10_ n11_ n12_; clear hb hbox hg; have hnb44 := NB216_202.out; have hnc44 := NB202_216.out; have hnb45 := NB216_203.out; have hnc45 := NB203_216.out; have hnb46 := NB216_206.out; have hnc46 := NB206_216.out; obtain ⟨hcz47_0, hcz47_1, hfz47_0, hfz47_1⟩ := sqc2 BK216) | ((with_reducible refine gate_callee (f := 94) rfl ?_); refine sqL (some 23) Try.func94 #[.pointer (some ⟨g206, 0, none⟩)] ?_; (with_reducible refine (spec_l9Wild.calls kj4 g206 t204 t215 t217 t218 t219 w _ ?side1 ?side2 A15.out).mono ?_); (case side1 => repeat (first | (with_reducible first | exact HI206.out | apply IsS161.alloc | apply IsS161.drewN | apply IsS161.drew | apply IsS161.set_1 | refine IsS161.far ?_ NB206_202.out _ | refine IsS161.far ?_ NB206_203.out _ | refine IsS161.far ?_ NB206_216.out _) | exact HI206.out)); (case side2 => repeat (first | (with_reducible first | exact HB.out | apply below_alloc | apply pw_below_drewN | apply below_drew1 | refine below_set ?_ (IsS161.ge HI206.out) | refine below_set ?_ GE202.out | refine below_set ?_ GE203.out | refine below_set ?_ GE216.out) | exact HB.out)); rintro e w48 ⟨rfl, hi, hb, hk⟩; refine ⟨_, rfl, ?_⟩; have n0_ := Aside0.mk (KeepBut.blk hk (g' := gb202) (o := .cells #[.int .i64 0, .int .i64 0] 26 (0, 0)) (by refine sqt ?_; refine blk_far ?_ NB202_216.out _; refine sqt ?_; refine blk_far ?_ NB202_216.out _; refine sqt ?_; exact BK202.out) NB202_206.out (by simp)); have n1_ := Aside0.mk (KeepBut.blk hk (g' := gb203) (o := .cells #[.int .i64 0, .int .i64 0] 26 (0, 0)) (by refine sqt ?_; refine blk_far ?_ NB203_216.out _; refine sqt ?_; refine blk_far ?_ NB203_216.out _; refine sqt ?_; exact BK203.out) NB203_206.out (by simp)); have n2_ := Aside0.mk (KeepBut.blk hk (g' := gb216) (o := .cells #[.int .i64 t213, .int .i64 t214] 26 (0, 0)) (by refine sqt ?_; refine blk_put (cs := #[.int .i64 t213, .int .i64 0]) ?_ 1 _ rfl; refine sqt ?_; refine blk_put (cs := #[.int .i64 0, .int .i64 0]) ?_ 0 _ rfl; refine sqt ?_; exact BK216.out) NB216_206.out (by simp)); have n3_ := Aside0.mk (hb); have n4_ := Aside0.mk (hi); clear BK202; clear BK203; clear BK216; clear HB; clear HI206; have BK202 := n0_; have BK203 := n1_; have BK216 := n2_; have HB := n3_; have HI206 := n4_; clear n0_ n1_ n2_ n3_ n4_; (try clear hb); (try clear hb2); (try clear hk); (try clear hi)) | ((with_reducible refine gate_dst (N := 8) rfl ?_); refine sqx 8 #[.int .i64 0, .int .i64 0] 26 ?_; intro gb220 hg w49 hbox hb; have n0_ := sqb BK202 hb; have n1_ := sqb BK203 hb; have n2_ := Aside0.mk (IsS161.below (by repeat (first | (with_reducible first | exact HI206.out | apply IsS161.alloc | apply IsS161.drewN | apply IsS161.drew | apply IsS161.set_1 | refine IsS161.far ?_ NB206_202.out _ | refine IsS161.far ?_ NB206_203.out _ | refine IsS161.far ?_ NB206_216.out _) | exact HI206.out)) hb); have n3_ := sqb BK216 hb; have n4_ := Aside0.mk (below_step (by repeat (first | (with_reducible first | exact HB.out | apply below_alloc | apply pw_below_drewN | apply below_drew1 | refine below_set ?_ (IsS161.ge HI206.out) | refine below_set ?_ GE202.out | refine below_set ?_ GE203.out | refine below_set ?_ GE216.out) | exact HB.out)) hb); have n5_ := Aside0.mk (hbox); have n6_ := Aside0.mk ((by rw [hg]; exact (below_size (by repeat (first | (with_reducible first | exact HB.out | apply below_alloc | apply pw_below_drewN | apply below_drew1 | refine below_set ?_ (IsS161.ge HI206.out) | refine below_set ?_ GE202.out | refine below_set ?_ GE203.out | refine below_set ?_ GE216.out) | exact HB.out))) : w.heap.size ≤ gb220)); have n7_ := Aside0.mk ((by rw [hg]; exact (below_size (by repeat (first | (with_reducible first | exact HB.out | apply below_alloc | apply pw_below_drewN | apply below_drew1 | refine below_set ?_ (IsS161.ge HI206.out) | refine below_set ?_ GE202.out | refine below_set ?_ GE203.out | refine below_set ?_ GE216.out) | exact HB.out))) : w.heap.size ≤ gb220)); have n8_ := sqn BK202 hg; have n9_ := sqm BK202 hg; have n10_ := sqn BK203 hg; have n11_ := sqm BK203 hg; have n12_ := sqn BK216 hg; have n13_ := sqm BK216 hg; have n14_ := Aside0.mk ((by rw [hg]; exact Nat.ne_of_lt (IsS161.lt (show IsS161 w _ g206 t204 t219 from by repeat (first | (with_reducible first | exact HI206.out | apply IsS161.alloc | apply IsS161.drewN | apply IsS161.drew | apply IsS161.set_1 | refine IsS161.far ?_ NB206_202.out _ | refine IsS161.far ?_ NB206_203.out _ | refine IsS161.far ?_ NB206_216.out _) | exact HI206.out))) : g206 ≠ gb220)); have n15_ := Aside0.mk ((by rw [hg]; exact Nat.ne_of_gt (IsS161.lt (show IsS161 w _ g206 t204 t219 from by repeat (first | (with_reducible first | exact HI206.out | apply IsS161.alloc | apply IsS161.drewN | apply IsS161.drew | apply IsS161.set_1 | refine IsS161.far ?_ NB206_202.out _ | refine IsS161.far ?_ NB206_203.out _ | refine IsS161.far ?_ NB206_216.out _) | exact HI206.out))) : gb220 ≠ g206)); clear BK202; clear BK203; clear HI206; clear BK216; clear HB; have BK202 := n0_; have BK203 := n1_; have HI206 := n2_; have BK216 := n3_; have HB := n4_; have BK220 := n5_; have GW220 := n6_; have GE220 := n7_; have NB202_220 := n8_; have NB220_202 := n9_; have NB203_220 := n10_; have NB220_203 := n11_; have NB216_220 := n12_; have NB220_216 := n13_; have NB206_220 := n14_; have NB220_206 := n15_; clear n0_ n1_ n2_ n3_ n4_ n5_ n6_ n7_ n8_ n9_ n10_ n11_ n12_ n13_ n14_ n15_; clear hb hbox hg; have hnb50 := NB220_202.out; have hnc50 := NB202_220.out; have hnb51 := NB220_203.out; have hnc51 := NB203_220.out; have hnb52 := NB220_216.out; have hnc52 := NB216_220.out; have hnb53 := NB220_206.out; have hnc53 := NB206_220.out; obtain ⟨hcz54_0, hcz54_1, hfz54_0, hfz54_1⟩ := sqc2 BK220) | (go_at_call 109; (with_reducible refine (spec_l1Rd_pick.calls kj4 g206 t204 t219 3 t221 t222 w _ ?side1 ?side2 A17.out).mono ?_); (case side1 => repeat (first | (with_reducible first | exact HI206.out | apply IsS161.alloc | apply IsS161.drewN | apply IsS161.drew | apply IsS161.set_1 | refine IsS161.far ?_ NB206_202.out _ | refine IsS161.far ?_ NB206_203.out _ | refine IsS161.far ?_ NB206_216.out _ | refine IsS161.far ?_ NB206_220.out _) | exact HI206.out)); (case side2 => repeat (first | (with_reducible first | exact HB.out | apply below_alloc | apply pw_below_drewN | apply below_drew1 | refine below_set ?_ (IsS161.ge HI206.out) | refine below_set ?_ GE202.out | refine below_set ?_ GE203.out | refine below_set ?_ GE216.out | refine below_set ?_ GE220.out) | exact HB.out)); rintro e w55 ⟨rfl, hi, hb, hk⟩; have n0_ := Aside0.mk (KeepBut.blk hk (g' := gb202) (o := .cells #[.int .i64 0, .int .i64 0] 26 (0, 0)) (by refine sqt ?_; refine blk_far ?_ NB202_220.out _; refine sqt ?_; refine blk_far ?_ NB202_220.out _; refine sqt ?_; exact BK202.out) NB202_206.out (by simp)); have n1_ := Aside0.mk (KeepBut.blk hk (g' := gb203) (o := .cells #[.int .i64 0, .int .i64 0] 26 (0, 0)) (by refine sqt ?_; refine blk_far ?_ NB203_220.out _; refine sqt ?_; refine blk_far ?_ NB203_220.out _; refine sqt ?_; exact BK203.out) NB203_206.out (by simp)); have n2_ := Aside0.mk (KeepBut.blk hk (g' := gb216) (o := .cells #[.int .i64 t213, .int .i64 t214] 26 (0, 0)) (by refine sqt ?_; refine blk_far ?_ NB216_220.out _; refine sqt ?_; refine blk_far ?_ NB216_220.out _; refine sqt ?_; exact BK216.out) NB216_206.out (by simp)); have n3_ := Aside0.mk (KeepBut.blk hk (g' := gb220) (o := .cells #[.int .i64 t217, .int .i64 t218] 26 (0, 0)) (by refine sqt ?_; refine blk_put (cs := #[.int .i64 t217, .int .i64 0]) ?_ 1 _ rfl; refine sqt ?_; refine blk_put (cs := #[.int .i64 0, .int .i64 0]) ?_ 0 _ rfl; refine sqt ?_; exact BK220.out) NB220_206.out (by simp)); have n4_ := Aside0.mk (hb); have n5_ := Aside0.mk (hi); clear BK202; clear BK203; clear BK216; clear BK220; clear HB; clear HI206; have BK202 := n0_; have BK203 := n1_; have BK216 := n2_; have BK220 := n3_; have HB := n4_; have HI206 := n5_; clear n0_ n1_ n2_ n3_ n4_ n5_; (try clear hb); (try clear hb2); (try clear hk); (try clear hi)))
          replace BK202 := Aside0.mk (blk_drew BK202.out)
          replace BK203 := Aside0.mk (blk_drew BK203.out)
          replace BK216 := Aside0.mk (blk_drew BK216.out)
          replace BK220 := Aside0.mk (blk_drew BK220.out)
          replace HI206 := Aside0.mk (IsS161.drew HI206.out)
          replace HB := Aside0.mk (below_drew1 HB.out)
          refine start_ (n := 6) (S := fun w' => w'.cell? ⟨gb216, 0, none⟩ = some (.int .i64 t213) ∧ w'.cell? ⟨gb216, 1, none⟩ = some (.int .i64 t214) ∧ w'.cell? ⟨gb220, 0, none⟩ = some (.int .i64 t217) ∧ w'.cell? ⟨gb220, 1, none⟩ = some (.int .i64 t218)) (ds := []) #[false, false, false, false, false, false] (by kernel_rfl) rfl rfl ⟨(blk_cell BK216.out 0).trans rfl, (blk_cell BK216.out 1).trans rfl, (blk_cell BK220.out 0).trans rfl, (blk_cell BK220.out 1).trans rfl⟩ (fun hHeld => ?_)
          generalize w55.drew = w56 at BK202 BK203 BK216 BK220 HI206 HB hHeld ⊢
          refine pure_ (i := 0) (N := some 35) (v := ?_) (a' := ?_) #[true, false, false, false, false, false] rfl rfl (by kernel_rfl) (fun _ _ _ h => h) (Or.inl ⟨by rfl, ?_⟩) ?_ ?_
          rotate_left
          · intro w'
            go_simp
            with_reducible rfl
          rotate_left
          · simp only [Act.put, List.setIfInBounds_toArray, List.set_cons_zero, List.set_cons_succ, i64_w, i32_w]
            rfl
          refine pure_ (i := 3) (N := some 2) (v := ?_) (a' := ?_) #[true, false, false, true, false, false] rfl rfl (by kernel_rfl) (fun _ _ _ h => h) (Or.inl ⟨by rfl, ?_⟩) ?_ ?_
          rotate_left
          · intro w'
            go_simp
            with_reducible rfl
          rotate_left
          · simp only [Act.put, List.setIfInBounds_toArray, List.set_cons_zero, List.set_cons_succ, i64_w, i32_w]
            rfl
          refine take_ (i := 1) (N := some 36) (v := ?_) (a' := ?_) #[true, true, false, true, false, false] rfl rfl (by kernel_rfl) (fun _ _ _ h => h) (Or.inl ⟨by rfl, ?_⟩) hHeld ?_ ?_
          rotate_left
          · rintro w' ⟨s0, s1, s2, s3⟩
            go_simp
            with_reducible rfl
          rotate_left
          · simp only [Act.put, List.setIfInBounds_toArray, List.set_cons_zero, List.set_cons_succ, i64_w, i32_w]
            rfl
          refine take_ (i := 2) (N := some 37) (v := ?_) (a' := ?_) #[true, true, true, true, false, false] rfl rfl (by kernel_rfl) (fun _ _ _ h => h) (Or.inl ⟨by rfl, ?_⟩) hHeld ?_ ?_
          rotate_left
          · rintro w' ⟨s0, s1, s2, s3⟩
            go_simp
            with_reducible rfl
          rotate_left
          · simp only [Act.put, List.setIfInBounds_toArray, List.set_cons_zero, List.set_cons_succ, i64_w, i32_w]
            rfl
          refine one_ (i := 4) (N := none) #[true, true, true, true, true, false] rfl rfl (by kernel_rfl) (by decide) (fun K hK => ?_)
          have hs57 : w56.cell? ⟨gb202, 0, none⟩ = some (.int .i64 0) := (blk_cell BK202.out 0).trans rfl
          have hfs57 := blk_frozen BK202.out 0
          have hns57_1 := NB203_202.out
          have hns57_2 := NB216_202.out
          have hns57_3 := NB220_202.out
          have hms57_1 := NB202_203.out
          have hms57_2 := NB202_216.out
          have hms57_3 := NB202_220.out
          have hs58 : w56.cell? ⟨gb202, 1, none⟩ = some (.int .i64 0) := (blk_cell BK202.out 1).trans rfl
          have hfs58 := blk_frozen BK202.out 1
          have hns58_1 := NB203_202.out
          have hns58_2 := NB216_202.out
          have hns58_3 := NB220_202.out
          have hms58_1 := NB202_203.out
          have hms58_2 := NB202_216.out
          have hms58_3 := NB202_220.out
          refine skip_ (w1 := ?_) (by rfl) rfl ?_ ?_
          rotate_left
          · go_simp
            rfl
          refine hK.out _ _ ⟨((cell_far (p := ⟨gb202, _, none⟩) NB216_202.out _).trans (((cell_far (p := ⟨gb202, _, none⟩) NB216_202.out _).trans (hHeld.1)))), ((cell_far (p := ⟨gb202, _, none⟩) NB216_202.out _).trans (((cell_far (p := ⟨gb202, _, none⟩) NB216_202.out _).trans (hHeld.2.1)))), ((cell_far (p := ⟨gb202, _, none⟩) NB220_202.out _).trans (((cell_far (p := ⟨gb202, _, none⟩) NB220_202.out _).trans (hHeld.2.2.1)))), ((cell_far (p := ⟨gb202, _, none⟩) NB220_202.out _).trans (((cell_far (p := ⟨gb202, _, none⟩) NB220_202.out _).trans (hHeld.2.2.2))))⟩ (fun hHeld => ?_)
          clear hK K
          refine one_ (i := 5) (N := none) #[true, true, true, true, true, true] rfl rfl (by kernel_rfl) (by decide) (fun K hK => ?_)
          have hs59 : w56.cell? ⟨gb203, 0, none⟩ = some (.int .i64 0) := (blk_cell BK203.out 0).trans rfl
          have hfs59 := blk_frozen BK203.out 0
          have hns59_0 := NB202_203.out
          have hns59_2 := NB216_203.out
          have hns59_3 := NB220_203.out
          have hms59_0 := NB203_202.out
          have hms59_2 := NB203_216.out
          have hms59_3 := NB203_220.out
          have hs60 : w56.cell? ⟨gb203, 1, none⟩ = some (.int .i64 0) := (blk_cell BK203.out 1).trans rfl
          have hfs60 := blk_frozen BK203.out 1
          have hns60_0 := NB202_203.out
          have hns60_2 := NB216_203.out
          have hns60_3 := NB220_203.out
          have hms60_0 := NB203_202.out
          have hms60_2 := NB203_216.out
          have hms60_3 := NB203_220.out
          refine skip_ (w1 := ?_) (by rfl) rfl ?_ ?_
          rotate_left
          · go_simp
            rfl
          refine hK.out _ _ ⟨((cell_far (p := ⟨gb203, _, none⟩) NB216_203.out _).trans (((cell_far (p := ⟨gb203, _, none⟩) NB216_203.out _).trans (hHeld.1)))), ((cell_far (p := ⟨gb203, _, none⟩) NB216_203.out _).trans (((cell_far (p := ⟨gb203, _, none⟩) NB216_203.out _).trans (hHeld.2.1)))), ((cell_far (p := ⟨gb203, _, none⟩) NB220_203.out _).trans (((cell_far (p := ⟨gb203, _, none⟩) NB220_203.out _).trans (hHeld.2.2.1)))), ((cell_far (p := ⟨gb203, _, none⟩) NB220_203.out _).trans (((cell_far (p := ⟨gb203, _, none⟩) NB220_203.out _).trans (hHeld.2.2.2))))⟩ (fun hHeld => ?_)
          clear hK K
          refine done_ (by kernel_rfl) ?_
          try go_wp2
          refine bodyPost_ret (results_list (rs := [.tmp 2, .cell 3 26, .cell 4 26]) rfl (by simp) (.tmp (.cell gb202 26 #[.int .i64 t213, .int .i64 t214] (0, 0) _ rfl (by refine sqt ?_; refine blk_far ?_ NB202_203.out _; refine sqt ?_; refine blk_far ?_ NB202_203.out _; refine sqt ?_; refine blk_put (cs := #[.int .i64 t213, .int .i64 0]) ?_ 1 _ rfl; refine sqt ?_; refine blk_put (cs := #[.int .i64 0, .int .i64 0]) ?_ 0 _ rfl; refine sqt ?_; exact BK202.out) Try.underlying26 rfl (by kernel_rfl) (.cell gb203 26 #[.int .i64 t217, .int .i64 t218] (0, 0) _ rfl (by refine sqt ?_; refine blk_put (cs := #[.int .i64 t217, .int .i64 0]) ?_ 1 _ rfl; refine sqt ?_; refine blk_put (cs := #[.int .i64 0, .int .i64 0]) ?_ 0 _ rfl; refine sqt ?_; refine blk_far ?_ NB203_202.out _; refine sqt ?_; refine blk_far ?_ NB203_202.out _; refine sqt ?_; exact BK203.out) Try.underlying26 rfl (by kernel_rfl) .nil)))) rfl ?_
          exact ⟨by first | rfl | (simp [errW_none, errW_some] <;> rfl) | (simp [*, errW_none, errW_some] <;> rfl), by repeat (first | (with_reducible first | exact HB.out | apply below_alloc | apply pw_below_drewN | apply below_drew1 | refine below_set ?_ (IsS161.ge HI206.out) | refine below_set ?_ GE202.out | refine below_set ?_ GE203.out | refine below_set ?_ GE216.out | refine below_set ?_ GE220.out) | exact HB.out)⟩
      · rw [if_neg c16] at H
        have c16b0 : (x6_4 == 9) = false := beq_eq_false_iff_ne.mpr c16
        have c16b1 : (x6_4 != 9) = true := bne_iff_ne.mpr c16
        simp only [Option.some.injEq, Prod.mk.injEq] at H
        obtain ⟨rfl, rfl, rfl, rfl, rfl⟩ := H
        try go_wp2_with (first | ((with_reducible refine gate_callee (f := 94) rfl ?_); refine sqL (some 21) Try.func94 #[.pointer (some ⟨g206, 0, none⟩)] ?_; (with_reducible refine (spec_l9Wild.calls kj4 g206 t204 x207001_4 t213 t214 t215 w _ ?side1 ?side2 A14.out).mono ?_); (case side1 => repeat (first | (with_reducible first | exact HI206.out | apply IsS161.alloc | apply IsS161.drewN | apply IsS161.drew | apply IsS161.set_1 | refine IsS161.far ?_ NB206_202.out _ | refine IsS161.far ?_ NB206_203.out _) | exact HI206.out)); (case side2 => repeat (first | (with_reducible first | exact HB.out | apply below_alloc | apply pw_below_drewN | apply below_drew1 | refine below_set ?_ (IsS161.ge HI206.out) | refine below_set ?_ GE202.out | refine below_set ?_ GE203.out) | exact HB.out)); rintro e w61 ⟨rfl, hi, hb, hk⟩; refine ⟨_, rfl, ?_⟩; have n0_ := Aside0.mk (KeepBut.blk hk (g' := gb202) (o := .cells #[.int .i64 0, .int .i64 0] 26 (0, 0)) (by refine sqt ?_; exact BK202.out) NB202_206.out (by simp)); have n1_ := Aside0.mk (KeepBut.blk hk (g' := gb203) (o := .cells #[.int .i64 0, .int .i64 0] 26 (0, 0)) (by refine sqt ?_; exact BK203.out) NB203_206.out (by simp)); have n2_ := Aside0.mk (hb); have n3_ := Aside0.mk (hi); clear BK202; clear BK203; clear HB; clear HI206; have BK202 := n0_; have BK203 := n1_; have HB := n2_; have HI206 := n3_; clear n0_ n1_ n2_ n3_; (try clear hb); (try clear hb2); (try clear hk); (try clear hi)) | ((with_reducible refine gate_dst (N := 7) rfl ?_); refine sqx 7 #[.int .i64 0, .int .i64 0] 26 ?_; intro gb216 hg w62 hbox hb; have n0_ := sqb BK202 hb; have n1_ := sqb BK203 hb; have n2_ := Aside0.mk (IsS161.below (by repeat (first | (with_reducible first | exact HI206.out | apply IsS161.alloc | apply IsS161.drewN | apply IsS161.drew | apply IsS161.set_1 | refine IsS161.far ?_ NB206_202.out _ | refine IsS161.far ?_ NB206_203.out _) | exact HI206.out)) hb); have n3_ := Aside0.mk (below_step (by repeat (first | (with_reducible first | exact HB.out | apply below_alloc | apply pw_below_drewN | apply below_drew1 | refine below_set ?_ (IsS161.ge HI206.out) | refine below_set ?_ GE202.out | refine below_set ?_ GE203.out) | exact HB.out)) hb); have n4_ := Aside0.mk (hbox); have n5_ := Aside0.mk ((by rw [hg]; exact (below_size (by repeat (first | (with_reducible first | exact HB.out | apply below_alloc | apply pw_below_drewN | apply below_drew1 | refine below_set ?_ (IsS161.ge HI206.out) | refine below_set ?_ GE202.out | refine below_set ?_ GE203.out) | exact HB.out))) : w.heap.size ≤ gb216)); have n6_ := Aside0.mk ((by rw [hg]; exact (below_size (by repeat (first | (with_reducible first | exact HB.out | apply below_alloc | apply pw_below_drewN | apply below_drew1 | refine below_set ?_ (IsS161.ge HI206.out) | refine below_set ?_ GE202.out | refine below_set ?_ GE203.out) | exact HB.out))) : w.heap.size ≤ gb216)); have n7_ := sqn BK202 hg; have n8_ := sqm BK202 hg; have n9_ := sqn BK203 hg; have n10_ := sqm BK203 hg; have n11_ := Aside0.mk ((by rw [hg]; exact Nat.ne_of_lt (IsS161.lt (show IsS161 w _ g206 t204 t215 from by repeat (first | (with_reducible first | exact HI206.out | apply IsS161.alloc | apply IsS161.drewN | apply IsS161.drew | apply IsS161.set_1 | refine IsS161.far ?_ NB206_202.out _ | refine IsS161.far ?_ NB206_203.out _) | exact HI206.out))) : g206 ≠ gb216)); have n12_ := Aside0.mk ((by rw [hg]; exact Nat.ne_of_gt (IsS161.lt (show IsS161 w _ g206 t204 t215 from by repeat (first | (with_reducible first | exact HI206.out | apply IsS161.alloc | apply IsS161.drewN | apply IsS161.drew | apply IsS161.set_1 | refine IsS161.far ?_ NB206_202.out _ | refine IsS161.far ?_ NB206_203.out _) | exact HI206.out))) : gb216 ≠ g206)); clear BK202; clear BK203; clear HI206; clear HB; have BK202 := n0_; have BK203 := n1_; have HI206 := n2_; have HB := n3_; have BK216 := n4_; have GW216 := n5_; have GE216 := n6_; have NB202_216 := n7_; have NB216_202 := n8_; have NB203_216 := n9_; have NB216_203 := n10_; have NB206_216 := n11_; have NB216_206 := n12_; clear n0_ n1_ n2_ n3_ n4_ n5_ n6_ n7_ n8_ n9_ n10_ n11_ n12_; clear hb hbox hg; have hnb63 := NB216_202.out; have hnc63 := NB202_216.out; have hnb64 := NB216_203.out; have hnc64 := NB203_216.out; have hnb65 := NB216_206.out; have hnc65 := NB206_216.out; obtain ⟨hcz66_0, hcz66_1, hfz66_0, hfz66_1⟩ := sqc2 BK216) | ((with_reducible refine gate_callee (f := 94) rfl ?_); refine sqL (some 23) Try.func94 #[.pointer (some ⟨g206, 0, none⟩)] ?_; (with_reducible refine (spec_l9Wild.calls kj4 g206 t204 t215 t217 t218 t219 w _ ?side1 ?side2 A15.out).mono ?_); (case side1 => repeat (first | (with_reducible first | exact HI206.out | apply IsS161.alloc | apply IsS161.drewN | apply IsS161.drew | apply IsS161.set_1 | refine IsS161.far ?_ NB206_202.out _ | refine IsS161.far ?_ NB206_203.out _ | refine IsS161.far ?_ NB206_216.out _) | exact HI206.out)); (case side2 => repeat (first | (with_reducible first | exact HB.out | apply below_alloc | apply pw_below_drewN | apply below_drew1 | refine below_set ?_ (IsS161.ge HI206.out) | refine below_set ?_ GE202.out | refine below_set ?_ GE203.out | refine below_set ?_ GE216.out) | exact HB.out)); rintro e w67 ⟨rfl, hi, hb, hk⟩; refine ⟨_, rfl, ?_⟩; have n0_ := Aside0.mk (KeepBut.blk hk (g' := gb202) (o := .cells #[.int .i64 0, .int .i64 0] 26 (0, 0)) (by refine sqt ?_; refine blk_far ?_ NB202_216.out _; refine sqt ?_; refine blk_far ?_ NB202_216.out _; refine sqt ?_; exact BK202.out) NB202_206.out (by simp)); have n1_ := Aside0.mk (KeepBut.blk hk (g' := gb203) (o := .cells #[.int .i64 0, .int .i64 0] 26 (0, 0)) (by refine sqt ?_; refine blk_far ?_ NB203_216.out _; refine sqt ?_; refine blk_far ?_ NB203_216.out _; refine sqt ?_; exact BK203.out) NB203_206.out (by simp)); have n2_ := Aside0.mk (KeepBut.blk hk (g' := gb216) (o := .cells #[.int .i64 t213, .int .i64 t214] 26 (0, 0)) (by refine sqt ?_; refine blk_put (cs := #[.int .i64 t213, .int .i64 0]) ?_ 1 _ rfl; refine sqt ?_; refine blk_put (cs := #[.int .i64 0, .int .i64 0]) ?_ 0 _ rfl; refine sqt ?_; exact BK216.out) NB216_206.out (by simp)); have n3_ := Aside0.mk (hb); have n4_ := Aside0.mk (hi); clear BK202; clear BK203; clear BK216; clear HB; clear HI206; have BK202 := n0_; have BK203 := n1_; have BK216 := n2_; have HB := n3_; have HI206 := n4_; clear n0_ n1_ n2_ n3_ n4_; (try clear hb); (try clear hb2); (try clear hk); (try clear hi)) | ((with_reducible refine gate_dst (N := 8) rfl ?_); refine sqx 8 #[.int .i64 0, .int .i64 0] 26 ?_; intro gb220 hg w68 hbox hb; have n0_ := sqb BK202 hb; have n1_ := sqb BK203 hb; have n2_ := Aside0.mk (IsS161.below (by repeat (first | (with_reducible first | exact HI206.out | apply IsS161.alloc | apply IsS161.drewN | apply IsS161.drew | apply IsS161.set_1 | refine IsS161.far ?_ NB206_202.out _ | refine IsS161.far ?_ NB206_203.out _ | refine IsS161.far ?_ NB206_216.out _) | exact HI206.out)) hb); have n3_ := sqb BK216 hb; have n4_ := Aside0.mk (below_step (by repeat (first | (with_reducible first | exact HB.out | apply below_alloc | apply pw_below_drewN | apply below_drew1 | refine below_set ?_ (IsS161.ge HI206.out) | refine below_set ?_ GE202.out | refine below_set ?_ GE203.out | refine below_set ?_ GE216.out) | exact HB.out)) hb); have n5_ := Aside0.mk (hbox); have n6_ := Aside0.mk ((by rw [hg]; exact (below_size (by repeat (first | (with_reducible first | exact HB.out | apply below_alloc | apply pw_below_drewN | apply below_drew1 | refine below_set ?_ (IsS161.ge HI206.out) | refine below_set ?_ GE202.out | refine below_set ?_ GE203.out | refine below_set ?_ GE216.out) | exact HB.out))) : w.heap.size ≤ gb220)); have n7_ := Aside0.mk ((by rw [hg]; exact (below_size (by repeat (first | (with_reducible first | exact HB.out | apply below_alloc | apply pw_below_drewN | apply below_drew1 | refine below_set ?_ (IsS161.ge HI206.out) | refine below_set ?_ GE202.out | refine below_set ?_ GE203.out | refine below_set ?_ GE216.out) | exact HB.out))) : w.heap.size ≤ gb220)); have n8_ := sqn BK202 hg; have n9_ := sqm BK202 hg; have n10_ := sqn BK203 hg; have n11_ := sqm BK203 hg; have n12_ := sqn BK216 hg; have n13_ := sqm BK216 hg; have n14_ := Aside0.mk ((by rw [hg]; exact Nat.ne_of_lt (IsS161.lt (show IsS161 w _ g206 t204 t219 from by repeat (first | (with_reducible first | exact HI206.out | apply IsS161.alloc | apply IsS161.drewN | apply IsS161.drew | apply IsS161.set_1 | refine IsS161.far ?_ NB206_202.out _ | refine IsS161.far ?_ NB206_203.out _ | refine IsS161.far ?_ NB206_216.out _) | exact HI206.out))) : g206 ≠ gb220)); have n15_ := Aside0.mk ((by rw [hg]; exact Nat.ne_of_gt (IsS161.lt (show IsS161 w _ g206 t204 t219 from by repeat (first | (with_reducible first | exact HI206.out | apply IsS161.alloc | apply IsS161.drewN | apply IsS161.drew | apply IsS161.set_1 | refine IsS161.far ?_ NB206_202.out _ | refine IsS161.far ?_ NB206_203.out _ | refine IsS161.far ?_ NB206_216.out _) | exact HI206.out))) : gb220 ≠ g206)); clear BK202; clear BK203; clear HI206; clear BK216; clear HB; have BK202 := n0_; have BK203 := n1_; have HI206 := n2_; have BK216 := n3_; have HB := n4_; have BK220 := n5_; have GW220 := n6_; have GE220 := n7_; have NB202_220 := n8_; have NB220_202 := n9_; have NB203_220 := n10_; have NB220_203 := n11_; have NB216_220 := n12_; have NB220_216 := n13_; have NB206_220 := n14_; have NB220_206 := n15_; clear n0_ n1_ n2_ n3_ n4_ n5_ n6_ n7_ n8_ n9_ n10_ n11_ n12_ n13_ n14_ n15_; clear hb hbox hg; have hnb69 := NB220_202.out; have hnc69 := NB202_220.out; have hnb70 := NB220_203.out; have hnc70 := NB203_220.out; have hnb71 := NB220_216.out; have hnc71 := NB216_220.out; have hnb72 := NB220_206.out; have hnc72 := NB206_220.out; obtain ⟨hcz73_0, hcz73_1, hfz73_0, hfz73_1⟩ := sqc2 BK220))
        have n0_ : Aside0 (((w68.setCell ⟨gb220, 0, none⟩ (.int .i64 t217)).setCell ⟨gb220, 1, none⟩ (.int .i64 t218)).heap[gb202]? = some (.cells #[.int .i64 0, .int .i64 0] 26 (0, 0))) := ⟨by refine sqt ?_; refine blk_far ?_ NB202_220.out _; refine sqt ?_; refine blk_far ?_ NB202_220.out _; refine sqt ?_; exact BK202.out⟩
        have n1_ : Aside0 (((w68.setCell ⟨gb220, 0, none⟩ (.int .i64 t217)).setCell ⟨gb220, 1, none⟩ (.int .i64 t218)).heap[gb203]? = some (.cells #[.int .i64 0, .int .i64 0] 26 (0, 0))) := ⟨by refine sqt ?_; refine blk_far ?_ NB203_220.out _; refine sqt ?_; refine blk_far ?_ NB203_220.out _; refine sqt ?_; exact BK203.out⟩
        have n2_ : Aside0 (((w68.setCell ⟨gb220, 0, none⟩ (.int .i64 t217)).setCell ⟨gb220, 1, none⟩ (.int .i64 t218)).heap[gb216]? = some (.cells #[.int .i64 t213, .int .i64 t214] 26 (0, 0))) := ⟨by refine sqt ?_; refine blk_far ?_ NB216_220.out _; refine sqt ?_; refine blk_far ?_ NB216_220.out _; refine sqt ?_; exact BK216.out⟩
        have n3_ : Aside0 (((w68.setCell ⟨gb220, 0, none⟩ (.int .i64 t217)).setCell ⟨gb220, 1, none⟩ (.int .i64 t218)).heap[gb220]? = some (.cells #[.int .i64 t217, .int .i64 t218] 26 (0, 0))) := ⟨by refine sqt ?_; refine blk_put (cs := #[.int .i64 t217, .int .i64 0]) ?_ 1 _ rfl; refine sqt ?_; refine blk_put (cs := #[.int .i64 0, .int .i64 0]) ?_ 0 _ rfl; refine sqt ?_; exact BK220.out⟩
        have n4_ : Aside0 (IsS161 w ((w68.setCell ⟨gb220, 0, none⟩ (.int .i64 t217)).setCell ⟨gb220, 1, none⟩ (.int .i64 t218)) g206 t204 t219) := ⟨by repeat (first | (with_reducible first | exact HI206.out | apply IsS161.alloc | apply IsS161.drewN | apply IsS161.drew | apply IsS161.set_1 | refine IsS161.far ?_ NB206_202.out _ | refine IsS161.far ?_ NB206_203.out _ | refine IsS161.far ?_ NB206_216.out _ | refine IsS161.far ?_ NB206_220.out _) | exact HI206.out)⟩
        have n5_ : Aside0 (Below w.heap.size w ((w68.setCell ⟨gb220, 0, none⟩ (.int .i64 t217)).setCell ⟨gb220, 1, none⟩ (.int .i64 t218))) := ⟨by repeat (first | (with_reducible first | exact HB.out | apply below_alloc | apply pw_below_drewN | apply below_drew1 | refine below_set ?_ (IsS161.ge HI206.out) | refine below_set ?_ GE202.out | refine below_set ?_ GE203.out | refine below_set ?_ GE216.out | refine below_set ?_ GE220.out) | exact HB.out)⟩
        (try clear BK202)
        (try clear BK203)
        (try clear BK216)
        (try clear BK220)
        (try clear HI206)
        (try clear HB)
        generalize ((w68.setCell ⟨gb220, 0, none⟩ (.int .i64 t217)).setCell ⟨gb220, 1, none⟩ (.int .i64 t218)) = w74 at n0_ n1_ n2_ n3_ n4_ n5_ ⊢
        have BK202 := n0_
        have BK203 := n1_
        have BK216 := n2_
        have BK220 := n3_
        have HI206 := n4_
        have HB := n5_
        clear n0_ n1_ n2_ n3_ n4_ n5_
        replace BK202 := Aside0.mk (blk_drew BK202.out)
        replace BK203 := Aside0.mk (blk_drew BK203.out)
        replace BK216 := Aside0.mk (blk_drew BK216.out)
        replace BK220 := Aside0.mk (blk_drew BK220.out)
        replace HI206 := Aside0.mk (IsS161.drew HI206.out)
        replace HB := Aside0.mk (below_drew1 HB.out)
        refine start_ (n := 6) (S := fun w' => w'.cell? ⟨gb216, 0, none⟩ = some (.int .i64 t213) ∧ w'.cell? ⟨gb216, 1, none⟩ = some (.int .i64 t214) ∧ w'.cell? ⟨gb220, 0, none⟩ = some (.int .i64 t217) ∧ w'.cell? ⟨gb220, 1, none⟩ = some (.int .i64 t218)) (ds := []) #[false, false, false, false, false, false] (by kernel_rfl) rfl rfl ⟨(blk_cell BK216.out 0).trans rfl, (blk_cell BK216.out 1).trans rfl, (blk_cell BK220.out 0).trans rfl, (blk_cell BK220.out 1).trans rfl⟩ (fun hHeld => ?_)
        generalize w74.drew = w75 at BK202 BK203 BK216 BK220 HI206 HB hHeld ⊢
        refine pure_ (i := 0) (N := some 35) (v := ?_) (a' := ?_) #[true, false, false, false, false, false] rfl rfl (by kernel_rfl) (fun _ _ _ h => h) (Or.inl ⟨by rfl, ?_⟩) ?_ ?_
        rotate_left
        · intro w'
          go_simp
          with_reducible rfl
        rotate_left
        · simp only [Act.put, List.setIfInBounds_toArray, List.set_cons_zero, List.set_cons_succ, i64_w, i32_w]
          rfl
        refine pure_ (i := 3) (N := some 2) (v := ?_) (a' := ?_) #[true, false, false, true, false, false] rfl rfl (by kernel_rfl) (fun _ _ _ h => h) (Or.inl ⟨by rfl, ?_⟩) ?_ ?_
        rotate_left
        · intro w'
          go_simp
          with_reducible rfl
        rotate_left
        · simp only [Act.put, List.setIfInBounds_toArray, List.set_cons_zero, List.set_cons_succ, i64_w, i32_w]
          rfl
        refine take_ (i := 1) (N := some 36) (v := ?_) (a' := ?_) #[true, true, false, true, false, false] rfl rfl (by kernel_rfl) (fun _ _ _ h => h) (Or.inl ⟨by rfl, ?_⟩) hHeld ?_ ?_
        rotate_left
        · rintro w' ⟨s0, s1, s2, s3⟩
          go_simp
          with_reducible rfl
        rotate_left
        · simp only [Act.put, List.setIfInBounds_toArray, List.set_cons_zero, List.set_cons_succ, i64_w, i32_w]
          rfl
        refine take_ (i := 2) (N := some 37) (v := ?_) (a' := ?_) #[true, true, true, true, false, false] rfl rfl (by kernel_rfl) (fun _ _ _ h => h) (Or.inl ⟨by rfl, ?_⟩) hHeld ?_ ?_
        rotate_left
        · rintro w' ⟨s0, s1, s2, s3⟩
          go_simp
          with_reducible rfl
        rotate_left
        · simp only [Act.put, List.setIfInBounds_toArray, List.set_cons_zero, List.set_cons_succ, i64_w, i32_w]
          rfl
        refine one_ (i := 4) (N := none) #[true, true, true, true, true, false] rfl rfl (by kernel_rfl) (by decide) (fun K hK => ?_)
        have hs76 : w75.cell? ⟨gb202, 0, none⟩ = some (.int .i64 0) := (blk_cell BK202.out 0).trans rfl
        have hfs76 := blk_frozen BK202.out 0
        have hns76_1 := NB203_202.out
        have hns76_2 := NB216_202.out
        have hns76_3 := NB220_202.out
        have hms76_1 := NB202_203.out
        have hms76_2 := NB202_216.out
        have hms76_3 := NB202_220.out
        have hs77 : w75.cell? ⟨gb202, 1, none⟩ = some (.int .i64 0) := (blk_cell BK202.out 1).trans rfl
        have hfs77 := blk_frozen BK202.out 1
        have hns77_1 := NB203_202.out
        have hns77_2 := NB216_202.out
        have hns77_3 := NB220_202.out
        have hms77_1 := NB202_203.out
        have hms77_2 := NB202_216.out
        have hms77_3 := NB202_220.out
        refine skip_ (w1 := ?_) (by rfl) rfl ?_ ?_
        rotate_left
        · go_simp
          rfl
        refine hK.out _ _ ⟨((cell_far (p := ⟨gb202, _, none⟩) NB216_202.out _).trans (((cell_far (p := ⟨gb202, _, none⟩) NB216_202.out _).trans (hHeld.1)))), ((cell_far (p := ⟨gb202, _, none⟩) NB216_202.out _).trans (((cell_far (p := ⟨gb202, _, none⟩) NB216_202.out _).trans (hHeld.2.1)))), ((cell_far (p := ⟨gb202, _, none⟩) NB220_202.out _).trans (((cell_far (p := ⟨gb202, _, none⟩) NB220_202.out _).trans (hHeld.2.2.1)))), ((cell_far (p := ⟨gb202, _, none⟩) NB220_202.out _).trans (((cell_far (p := ⟨gb202, _, none⟩) NB220_202.out _).trans (hHeld.2.2.2))))⟩ (fun hHeld => ?_)
        clear hK K
        refine one_ (i := 5) (N := none) #[true, true, true, true, true, true] rfl rfl (by kernel_rfl) (by decide) (fun K hK => ?_)
        have hs78 : w75.cell? ⟨gb203, 0, none⟩ = some (.int .i64 0) := (blk_cell BK203.out 0).trans rfl
        have hfs78 := blk_frozen BK203.out 0
        have hns78_0 := NB202_203.out
        have hns78_2 := NB216_203.out
        have hns78_3 := NB220_203.out
        have hms78_0 := NB203_202.out
        have hms78_2 := NB203_216.out
        have hms78_3 := NB203_220.out
        have hs79 : w75.cell? ⟨gb203, 1, none⟩ = some (.int .i64 0) := (blk_cell BK203.out 1).trans rfl
        have hfs79 := blk_frozen BK203.out 1
        have hns79_0 := NB202_203.out
        have hns79_2 := NB216_203.out
        have hns79_3 := NB220_203.out
        have hms79_0 := NB203_202.out
        have hms79_2 := NB203_216.out
        have hms79_3 := NB203_220.out
        refine skip_ (w1 := ?_) (by rfl) rfl ?_ ?_
        rotate_left
        · go_simp
          rfl
        refine hK.out _ _ ⟨((cell_far (p := ⟨gb203, _, none⟩) NB216_203.out _).trans (((cell_far (p := ⟨gb203, _, none⟩) NB216_203.out _).trans (hHeld.1)))), ((cell_far (p := ⟨gb203, _, none⟩) NB216_203.out _).trans (((cell_far (p := ⟨gb203, _, none⟩) NB216_203.out _).trans (hHeld.2.1)))), ((cell_far (p := ⟨gb203, _, none⟩) NB220_203.out _).trans (((cell_far (p := ⟨gb203, _, none⟩) NB220_203.out _).trans (hHeld.2.2.1)))), ((cell_far (p := ⟨gb203, _, none⟩) NB220_203.out _).trans (((cell_far (p := ⟨gb203, _, none⟩) NB220_203.out _).trans (hHeld.2.2.2))))⟩ (fun hHeld => ?_)
        clear hK K
        refine done_ (by kernel_rfl) ?_
        try go_wp2
        refine bodyPost_ret (results_list (rs := [.tmp 2, .cell 3 26, .cell 4 26]) rfl (by simp) (.tmp (.cell gb202 26 #[.int .i64 t213, .int .i64 t214] (0, 0) _ rfl (by refine sqt ?_; refine blk_far ?_ NB202_203.out _; refine sqt ?_; refine blk_far ?_ NB202_203.out _; refine sqt ?_; refine blk_put (cs := #[.int .i64 t213, .int .i64 0]) ?_ 1 _ rfl; refine sqt ?_; refine blk_put (cs := #[.int .i64 0, .int .i64 0]) ?_ 0 _ rfl; refine sqt ?_; exact BK202.out) Try.underlying26 rfl (by kernel_rfl) (.cell gb203 26 #[.int .i64 t217, .int .i64 t218] (0, 0) _ rfl (by refine sqt ?_; refine blk_put (cs := #[.int .i64 t217, .int .i64 0]) ?_ 1 _ rfl; refine sqt ?_; refine blk_put (cs := #[.int .i64 0, .int .i64 0]) ?_ 0 _ rfl; refine sqt ?_; refine blk_far ?_ NB203_202.out _; refine sqt ?_; refine blk_far ?_ NB203_202.out _; refine sqt ?_; exact BK203.out) Try.underlying26 rfl (by kernel_rfl) .nil)))) rfl ?_
        exact ⟨by first | rfl | (simp [errW_none, errW_some] <;> rfl) | (simp [*, errW_none, errW_some] <;> rfl), by repeat (first | (with_reducible first | exact HB.out | apply below_alloc | apply pw_below_drewN | apply below_drew1 | refine below_set ?_ (IsS161.ge HI206.out) | refine below_set ?_ GE202.out | refine below_set ?_ GE203.out | refine below_set ?_ GE216.out | refine below_set ?_ GE220.out) | exact HB.out)⟩

/-! ### impl_NumOk: function 117 -/
set_option maxHeartbeats 8000000 in
set_option maxRecDepth 100000 in
theorem impl_NumOk.calls (a0 : Int) (r : Bool) (w : World) (h : impl_NumOk.f a0 = some r) :
    Calls Try.prog 117 #[.int .i64 a0] w fun e w' => e = .returned (.bool r) ∧ Drawn0 w w' := by
  have H : (if a0 ≥ (-2147483648) then (some (decide (a0 ≤ 2147483647))) else (some false)) = some r := h
  clear h
  by_cases c2 : a0 ≥ (-2147483648)
  · rw [if_pos c2] at H
    have c2b0 : decide ((-2147483648) ≤ a0) = true := decide_eq_true c2
    clear c2
    obtain rfl := Option.some.inj H
    go_enter Try.func117, Try.ntmps117
    go_wp2
    go_ret
    exact ⟨by first | rfl | (simp; done) | (simp [*]; done), by repeat (first | exact Drawn0.refl _ | apply Drawn0.step)⟩
  · rw [if_neg c2] at H
    have c2b0 : decide ((-2147483648) ≤ a0) = false := decide_eq_false c2
    clear c2
    obtain rfl := Option.some.inj H
    go_enter Try.func117, Try.ntmps117
    go_wp2
    go_ret
    exact ⟨by first | rfl | (simp; done) | (simp [*]; done), by repeat (first | exact Drawn0.refl _ | apply Drawn0.step)⟩

end Go.Proofs.Ytkekcenlleebeaa.PFnRestDo
