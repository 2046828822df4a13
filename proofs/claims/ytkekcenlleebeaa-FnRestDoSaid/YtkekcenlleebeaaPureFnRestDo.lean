/- For every code the law FnRestDo answers true: what NumDo makes of numbers of two rests without a fault is a number of the rest that RestDo tells. Conditions: none beyond those of the given statement. -/
import Derived.Test.YtkekcenlleebeaaLFnRestDo
namespace Go.Proofs.Ytkekcenlleebeaa.Pure
set_option linter.unusedVariables false
set_option linter.unusedSimpArgs false
open Go.RowKit Go.Proofs.Ytkekcenlleebeaa.PFnRestDo Go.Proofs.Ytkekcenlleebeaa.LFnRestDo Go.Proofs.Ytkekcenlleebeaa.Base Go.Proofs.YtkekcenlleebeaaW.PrintWords Go.Proofs.YtkekcenlleebeaaW.PrintLast Go.Proofs.YtkekcenlleebeaaW.PrintMore

theorem restDo_l0 {code : List Int} (hc : Bytes code) (op m a m' a' : Int) : ∀ (d k : Nat) (i : Int), 0 ≤ i → (8 - i : Int) = d → d + 100 ≤ k →
    Tot (laws_FnRestDo.l0 k code op i m a m' a' (SDo op m a m' a').1 (SDo op m a m' a').2) fun r => r = true := by
  intro d
  induction d with
  | zero =>
    intro k i h0 hd hk
    obtain ⟨k, rfl⟩ : ∃ m, k = m + 1 := ⟨k - 1, by omega⟩
    simp only [laws_FnRestDo.l0]
    rw [if_neg (by omega)]
    exact Tot.here rfl
  | succ d ih =>
    intro k i h0 hd hk
    obtain ⟨k, rfl⟩ : ∃ m, k = m + 1 := ⟨k - 1, by omega⟩
    have nx := ih k (i + 1) (by omega) (by omega) (by omega)
    simp only [laws_FnRestDo.l0]
    rw [if_pos (by omega), wrap64_id (x := i + 1) (by omega) (by omega), wrap64_id (x := i + 13) (by omega) (by omega)]
    refine Tot.then (ofRest_tot _ (by omega) hc m a h0 (by omega)) fun u _ => Tot.then (ofRest_tot _ (by omega) hc m' a' (by omega) (by omega)) fun v _ => ?_
    rw [snumDo_eq _ (by omega), srestHas_eq _ (by omega), srestHas_eq _ (by omega)]
    simp only [Option.bind_some]
    rw [restHas_eq _ (by omega)]
    simp only [Option.bind_some, decide_eq_true_eq]
    refine Tot.ite (fun c1 => ?_) fun _ => nx
    refine Tot.ite (fun c2 => ?_) fun _ => nx
    refine Tot.ite (fun c3 => ?_) fun _ => nx
    refine Tot.ite (fun c4 => ?_) fun _ => nx
    refine Tot.ite (fun c5 => ?_) fun _ => nx
    rw [if_pos (SDo_has ⟨c1, c2⟩ c3 c4 c5)]
    exact nx

theorem FnRestDo : laws_FnRestDo.Pure := by
  intro l _ _ hw
  have hl := Bytes.of hw
  obtain ⟨K, hK⟩ : ∃ K : Nat, 400000000000000000000 ≤ K := ⟨_, Nat.le_refl _⟩
  refine ⟨K + 3, ?_⟩
  refine Tot.out ?_
  unfold laws_FnRestDo.f
  refine Tot.ite (fun _ => Tot.here rfl) fun _ => ?_
  refine Tot.then (drawRestDo_tot _ (by omega) hl) ?_
  rintro ⟨op, m, a, m', a'⟩ -
  dsimp only
  rw [restDo_eq _ (by omega), srestDo_eq _ (by omega)]
  simp only [Option.bind_some, beq_self_eq_true, Bool.not_true, Bool.or_self, Bool.false_eq_true, if_false]
  rw [restOk_eq]
  simp only [Option.bind_some, SDo_ok, decide_true, Bool.not_true, laws_FnRestDo.j0, Bool.false_eq_true, if_false]
  rw [srestOk_eq, srestOk_eq]
  simp only [Option.bind_some, decide_eq_true_eq]
  have bad : ¬ SOk m a ∨ ¬ SOk m' a' → Tot (laws_FnRestDo.j1 (K + 2) l op true m a m' a' (SDo op m a m' a').1 (SDo op m a m' a').2) fun r => r = true := by
    intro h
    have e : SDo op m a m' a' = (1, 0) := by unfold SDo; rw [if_pos (Or.inr h)]
    simp only [laws_FnRestDo.j1, e, if_true]
    exact Tot.here (by simp)
  by_cases o : SOk m a
  case neg => rw [if_neg o]; exact bad (Or.inl o)
  by_cases o' : SOk m' a'
  case neg =>
    simp only [o, o', if_true, decide_false, Bool.not_false]
    exact bad (Or.inr o')
  simp only [o, o', if_true, decide_true, Bool.not_true, laws_FnRestDo.j1, Bool.false_eq_true, if_false]
  exact restDo_l0 hl op m a m' a' 8 _ 0 (by omega) (by omega) (by omega)
end Go.Proofs.Ytkekcenlleebeaa.Pure
