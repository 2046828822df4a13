/- For every code the law FnRestLattice answers true: what one of two rests has the join has, what both have the meet has, and with no meet there is no such number. Conditions: none beyond those of the given statement. -/
import Derived.Test.YtmdcgkkkfncieaaLFnRestLattice
namespace Go.Proofs.Ytmdcgkkkfncieaa.Pure
set_option linter.unusedVariables false
set_option linter.unusedSimpArgs false
open Go.RowKit Go.Proofs.Ytmdcgkkkfncieaa.PFnRestLattice Go.Proofs.Ytmdcgkkkfncieaa.LFnRestLattice Go.Proofs.Ytmdcgkkkfncieaa.Base Go.Proofs.YtmdcgkkkfncieaaW.PrintWords Go.Proofs.YtmdcgkkkfncieaaW.PrintLast Go.Proofs.YtmdcgkkkfncieaaW.PrintMore

theorem rest_l0 {code : List Int} (hc : Bytes code) {m a m' a' : Int} (o : SOk m a) (o' : SOk m' a') : ∀ (d k : Nat) (i : Int), 0 ≤ i → (8 - i : Int) = d → d + 30 ≤ k →
    Tot (laws_FnRestLattice.l0 k code (SMeet m a m' a').2.2 i m a m' a' (SJoin m a m' a').1 (SJoin m a m' a').2 (SMeet m a m' a').1 (SMeet m a m' a').2.1) fun r => r = true := by
  intro d
  induction d with
  | zero =>
    intro k i h0 hd hk
    obtain ⟨k, rfl⟩ : ∃ m, k = m + 1 := ⟨k - 1, by omega⟩
    simp only [laws_FnRestLattice.l0]
    rw [if_neg (by omega)]
    exact Tot.here rfl
  | succ d ih =>
    intro k i h0 hd hk
    obtain ⟨k, rfl⟩ : ∃ m, k = m + 1 := ⟨k - 1, by omega⟩
    have nx := ih k (i + 1) (by omega) (by omega) (by omega)
    simp only [laws_FnRestLattice.l0]
    rw [if_pos (by omega), wrap64_id (x := i + 1) (by omega) (by omega)]
    refine Tot.then (ofRest_tot k (by omega) hc m a h0 (by omega)) fun u _ => ?_
    rw [srestHas_eq _ (by omega), srestHas_eq _ (by omega), restHas_eq _ (by omega), restHas_eq _ (by omega)]
    simp only [Option.bind_some, decide_eq_true_eq]
    by_cases c1 : SHas m a u
    · have j := (SIn_join_left o o').has c1
      simp only [c1, j, if_true]
      by_cases c2 : SHas m' a' u
      · simp only [c2, if_true]
        by_cases c3 : (SMeet m a m' a').2.2 = true
        · have s := (SMeet_some c3).2 u c1 c2
          rw [if_pos c3, if_pos s]; exact nx
        · exact absurd ⟨c1, c2⟩ (SMeet_none o o' (by simpa using c3) u)
      · simp only [c2, if_false]; exact nx
    · simp only [c1, if_false]; exact nx

theorem FnRestLattice : laws_FnRestLattice.Pure := by
  intro l _ _ hw
  have hl := Bytes.of hw
  obtain ⟨K, hK⟩ : ∃ K : Nat, 300000000000000000000 ≤ K := ⟨_, Nat.le_refl _⟩
  refine ⟨K + 3, ?_⟩
  refine Tot.out ?_
  unfold laws_FnRestLattice.f
  refine Tot.ite (fun _ => Tot.here rfl) fun _ => ?_
  refine Tot.then (drawRestMeet_tot _ (by omega) hl) ?_
  rintro ⟨m, a, m', a'⟩ -
  dsimp only
  rw [restJoin_eq _ (by omega), srestJoin_eq _ (by omega), restMeet_eq _ (by omega), srestMeet_eq _ (by omega)]
  simp only [Option.bind_some, beq_self_eq_true, Bool.not_true, Bool.or_self, Bool.false_eq_true, if_false, bne_self_eq_false, laws_FnRestLattice.j0]
  rw [srestOk_eq, srestOk_eq]
  simp only [Option.bind_some, decide_eq_true_eq]
  have bad : ¬ SOk m a ∨ ¬ SOk m' a' → Tot (laws_FnRestLattice.j1 (K + 2) l (SMeet m a m' a').2.2 true m a m' a' (SJoin m a m' a').1 (SJoin m a m' a').2 (SMeet m a m' a').1 (SMeet m a m' a').2.1) fun r => r = true := by
    intro h
    have e1 : SJoin m a m' a' = (1, 0) := by unfold SJoin; rw [if_pos h]
    have e2 : SMeet m a m' a' = (0, 0, false) := by unfold SMeet; rw [if_pos h]
    simp only [laws_FnRestLattice.j1, e1, e2]
    exact Tot.here (by simp)
  by_cases o : SOk m a
  case neg => rw [if_neg o]; exact bad (Or.inl o)
  by_cases o' : SOk m' a'
  case neg =>
    simp only [o, o', if_true, decide_false, Bool.not_false]
    exact bad (Or.inr o')
  simp only [o, o', if_true, decide_true, Bool.not_true, laws_FnRestLattice.j1, Bool.false_eq_true, if_false]
  rw [restIn_eq _ (by omega), restIn_eq _ (by omega), restOk_eq]
  simp only [Option.bind_some, SIn_join_left o o', SIn_join_right o o', decide_true, if_true]
  by_cases c : (SMeet m a m' a').2.2 = true
  · have s := (SMeet_some c).1
    rw [if_pos c]
    simp only [s, decide_true, Bool.not_true, laws_FnRestLattice.j2, Bool.false_eq_true, if_false]
    exact rest_l0 hl o o' 8 _ 0 (by omega) (by omega) (by omega)
  · rw [if_neg c]
    simp only [laws_FnRestLattice.j2, Bool.false_eq_true, if_false]
    exact rest_l0 hl o o' 8 _ 0 (by omega) (by omega) (by omega)
end Go.Proofs.Ytmdcgkkkfncieaa.Pure
