/- For every code the law FnRangeLattice answers true: what is in one of two ranges is in the join and in what is widened, and what is in both, and that alone, in the meet. Conditions: none beyond those of the given statement. -/
import Derived.Test.YtmdcgkkkfncieaaLFnRangeLattice
namespace Go.Proofs.Ytmdcgkkkfncieaa.Pure
set_option linter.unusedVariables false
set_option linter.unusedSimpArgs false
open Go.RowKit Go.Proofs.Ytmdcgkkkfncieaa.PFnRangeLattice Go.Proofs.Ytmdcgkkkfncieaa.LFnRangeLattice Go.Proofs.Ytmdcgkkkfncieaa.Base Go.Proofs.YtmdcgkkkfncieaaW.PrintWords Go.Proofs.YtmdcgkkkfncieaaW.PrintLast Go.Proofs.YtmdcgkkkfncieaaW.PrintMore

theorem lattice_j4 (k : Nat) (hk : 20 ≤ k) {xs : List Int} (hx : xs.length ≤ 5) {a b c d : Int} (oa : ROk a b) (oc : ROk c d) :
    Tot (laws_FnRangeLattice.j4 (k + 1) xs (decide (a > b ∨ c > d)) a b (RJoin a b c d).1 (RJoin a b c d).2 (RWiden a b c d xs).1 (RWiden a b c d xs).2) fun r => r = true := by
  simp only [laws_FnRangeLattice.j4, decide_eq_true_eq]
  refine Tot.ite (fun h => ?_) fun h => ?_
  · rw [RWiden_none xs (Or.inr (Or.inr h))]
    exact Tot.here (by simp)
  · have s := RWiden_spec xs oa oc (fun n => h (Or.inl n)) (fun n => h (Or.inr n))
    obtain ⟨-, -, -, -, s5, s6⟩ := s
    rw [has_eq _ _ _ (by omega) (by omega), has_eq _ _ _ (by omega) (by omega)]
    simp only [Option.bind_some]
    have hi : Tot (if (RWiden a b c d xs).2 = b then some true else if (RWiden a b c d xs).2 = 2147483647 then some true else some (decide ((RWiden a b c d xs).2 ∈ xs))) fun r => r = true := by
      refine Tot.ite (fun _ => Tot.here rfl) fun n => Tot.ite (fun _ => Tot.here rfl) fun m => ?_
      rcases s6 with s | s | s
      · exact absurd s n
      · exact absurd s m
      · exact Tot.here (by simpa using s)
    refine Tot.ite (fun _ => hi) fun n => Tot.ite (fun _ => hi) fun m => ?_
    rcases s5 with s | s | s
    · exact absurd s n
    · exact absurd s m
    · simp only [s, decide_true, if_true]; exact hi

theorem lattice_l0 {code xs : List Int} (hc : Bytes code) (hx : xs.length ≤ 5) {a b c d : Int} (oa : ROk a b) (oc : ROk c d) : ∀ (e k : Nat) (i : Int), 0 ≤ i → (6 - i : Int) = e → e + 30 ≤ k →
    Tot (laws_FnRangeLattice.l0 k code xs i a b c d (RJoin a b c d).1 (RJoin a b c d).2 (RMeet a b c d).1 (RMeet a b c d).2 (RWiden a b c d xs).1 (RWiden a b c d xs).2) fun r => r = true := by
  intro e
  induction e with
  | zero =>
    intro k i h0 hd hk
    obtain ⟨k, rfl⟩ : ∃ m, k = m + 2 := ⟨k - 2, by omega⟩
    have J := lattice_j4 k (by omega) hx oa oc
    simp only [laws_FnRangeLattice.l0]
    rw [if_neg (by omega)]
    by_cases e1 : a > b
    · rw [if_pos e1]
      simpa only [e1, true_or, decide_true] using J
    · rw [if_neg e1]
      simpa only [e1, false_or] using J
  | succ e ih =>
    intro k i h0 hd hk
    obtain ⟨k, rfl⟩ : ∃ m, k = m + 1 := ⟨k - 1, by omega⟩
    simp only [laws_FnRangeLattice.l0]
    rw [if_pos (by omega), wrap64_id (x := i + 1) (by omega) (by omega)]
    refine Tot.then (within_tot k (by omega) hc a b h0 (by omega)) fun v hv => ?_
    rw [rangeHas_eq, srangeHas_eq, srangeHas_eq]
    simp only [Option.bind_some]
    have m := RMeet_has a b c d v
    have nx := ih k (i + 1) (by omega) (by omega) (by omega)
    by_cases c1 : RHas a b v
    · by_cases c2 : RHas c d v
      · simp only [c1, c2, m.mpr ⟨c1, c2⟩, decide_true, if_true, bne_self_eq_false, Bool.false_eq_true, if_false]; exact nx
      · have : ¬ RHas (RMeet a b c d).1 (RMeet a b c d).2 v := fun x => c2 (m.mp x).2
        simp only [c1, c2, this, decide_true, decide_false, if_true, bne_self_eq_false, Bool.false_eq_true, if_false]; exact nx
    · have : ¬ RHas (RMeet a b c d).1 (RMeet a b c d).2 v := fun x => c1 (m.mp x).1
      simp only [c1, this, decide_false, bne_self_eq_false, Bool.false_eq_true, if_false]; exact nx

theorem FnRangeLattice : laws_FnRangeLattice.Pure := by
  intro l _ _ hw
  have hl := Bytes.of hw
  refine ⟨200, ?_⟩
  refine Tot.out ?_
  unfold laws_FnRangeLattice.f
  refine Tot.ite (fun _ => Tot.here rfl) fun _ => ?_
  refine Tot.then (drawRangeWiden_tot 200 (by omega) hl) ?_
  rintro ⟨a, b, c, d, xs⟩ hx
  dsimp only at hx ⊢
  rw [rangeJoin_eq _ (by omega), srangeJoin_eq _ (by omega), rangeMeet_eq _ (by omega), srangeMeet_eq _ (by omega), rangeWiden_eq _ _ _ _ _ _ (by omega) (by omega), srangeWiden_eq _ _ _ _ _ _ (by omega) (by omega)]
  simp only [Option.bind_some, beq_self_eq_true, Bool.not_true, Bool.or_self, Bool.false_eq_true, if_false, laws_FnRangeLattice.j0]
  rw [srangeOk_eq, srangeOk_eq]
  simp only [Option.bind_some, decide_eq_true_eq]
  have bad : ¬ ROk a b ∨ ¬ ROk c d → Tot (laws_FnRangeLattice.j1 199 l xs true a b c d (RJoin a b c d).1 (RJoin a b c d).2 (RMeet a b c d).1 (RMeet a b c d).2 (RWiden a b c d xs).1 (RWiden a b c d xs).2) fun r => r = true := by
    intro h
    have e1 : RJoin a b c d = (1, 0) := by unfold RJoin; rw [if_pos h]
    have h' : ¬ ROk a b ∨ ¬ ROk c d ∨ a > b ∨ c > d := by
      rcases h with h | h
      · exact Or.inl h
      · exact Or.inr (Or.inl h)
    have e2 : RMeet a b c d = (1, 0) := by unfold RMeet; rw [if_pos h']
    have e3 : RWiden a b c d xs = (1, 0) := by rw [RWiden_none xs h', e1]
    simp only [laws_FnRangeLattice.j1, e1, e2, e3]
    exact Tot.here (by simp)
  refine Tot.ite (fun oa => ?_) fun oa => bad (Or.inl oa)
  by_cases oc : ROk c d
  case neg =>
    simp only [oc, decide_false, Bool.not_false]
    exact bad (Or.inr oc)
  simp only [oc, decide_true, Bool.not_true, laws_FnRangeLattice.j1, Bool.false_eq_true, if_false]
  rw [rangeIn_eq, rangeIn_eq, rangeIn_eq, rangeIn_eq, rangeIn_eq]
  simp only [Option.bind_some, RIn_join_left oa oc, RIn_join_right oa oc, RIn_join_widen xs oa oc, RIn_meet_left oa oc, RIn_meet_right oa oc, decide_true, if_true, Bool.not_true, laws_FnRangeLattice.j2, Bool.false_eq_true, if_false]
  exact lattice_l0 hl hx oa oc 6 _ 0 (by omega) (by omega) (by omega)
end Go.Proofs.Ytmdcgkkkfncieaa.Pure
