/- For every code the law FnRangeCmp answers true: where a comparison holds of numbers of two ranges, both are left, and what is left was there. Conditions: none beyond those of the given statement. -/
import Derived.Test.YtkekcenlleebeaaLFnRangeCmp
namespace Go.Proofs.Ytkekcenlleebeaa.Pure
set_option linter.unusedVariables false
set_option linter.unusedSimpArgs false
open Go.RowKit Go.Proofs.Ytkekcenlleebeaa.PFnRangeCmp Go.Proofs.Ytkekcenlleebeaa.LFnRangeCmp Go.Proofs.Ytkekcenlleebeaa.Base Go.Proofs.YtkekcenlleebeaaW.PrintWords Go.Proofs.YtkekcenlleebeaaW.PrintLast Go.Proofs.YtkekcenlleebeaaW.PrintMore

theorem rangeCmp_l0 {code : List Int} (hc : Bytes code) {c l h l' h' : Int} (o : ROk l h) (o' : ROk l' h') (e : ¬ l > h) (e' : ¬ l' > h') : ∀ (d k : Nat) (i : Int), 0 ≤ i → (8 - i : Int) = d → d + 50 ≤ k →
    Tot (laws_FnRangeCmp.l0 k code c i l h l' h' (RCmp c l h l' h').1 (RCmp c l h l' h').2.1 (RCmp c l h l' h').2.2.1 (RCmp c l h l' h').2.2.2) fun r => r = true := by
  intro d
  induction d with
  | zero =>
    intro k i h0 hd hk
    obtain ⟨k, rfl⟩ : ∃ m, k = m + 1 := ⟨k - 1, by omega⟩
    simp only [laws_FnRangeCmp.l0]
    rw [if_neg (by omega)]
    exact Tot.here rfl
  | succ d ih =>
    intro k i h0 hd hk
    obtain ⟨k, rfl⟩ : ∃ m, k = m + 1 := ⟨k - 1, by omega⟩
    have nx := ih k (i + 1) (by omega) (by omega) (by omega)
    simp only [laws_FnRangeCmp.l0]
    rw [if_pos (by omega), wrap64_id (x := i + 1) (by omega) (by omega), wrap64_id (x := i + 9) (by omega) (by omega)]
    refine Tot.then (within_tot _ (by omega) hc l h h0 (by omega)) fun p hp => Tot.then (within_tot _ (by omega) hc l' h' (by omega) (by omega)) fun q hq => ?_
    rw [numCmp_eq, rangeHas_eq, rangeHas_eq]
    simp only [Option.bind_some, decide_eq_true_eq]
    refine Tot.ite (fun n => ?_) fun _ => nx
    have r := RCmp_has (⟨o, hp.2.2 o e⟩ : RHas l h p) (⟨o', hq.2.2 o' e'⟩ : RHas l' h' q) n
    rw [if_pos r.1, if_pos r.2]
    exact nx

theorem FnRangeCmp : laws_FnRangeCmp.Pure := by
  intro l _ _ hw
  have hl := Bytes.of hw
  obtain ⟨K, hK⟩ : ∃ K : Nat, 200 ≤ K := ⟨_, Nat.le_refl _⟩
  refine ⟨K + 6, ?_⟩
  refine Tot.out ?_
  unfold laws_FnRangeCmp.f
  refine Tot.ite (fun _ => Tot.here rfl) fun _ => ?_
  refine Tot.then (drawRangeCmp_tot _ (by omega) hl) ?_
  rintro ⟨c, a, b, a', b'⟩ -
  dsimp only
  rw [rangeCmp_eq _ (by omega), srangeCmp_eq _ (by omega)]
  simp only [Option.bind_some, beq_self_eq_true, Bool.not_true, Bool.or_self, Bool.false_eq_true, if_false, laws_FnRangeCmp.j0]
  rw [srangeOk_eq, srangeOk_eq]
  simp only [Option.bind_some, decide_eq_true_eq]
  have bad : ¬ ROk a b ∨ ¬ ROk a' b' → Tot (laws_FnRangeCmp.j1 (K + 5) l c true a b a' b' (RCmp c a b a' b').1 (RCmp c a b a' b').2.1 (RCmp c a b a' b').2.2.1 (RCmp c a b a' b').2.2.2) fun r => r = true := by
    intro h
    have e : RCmp c a b a' b' = (1, 0, 1, 0) := by
      unfold RCmp
      rw [if_pos (by rcases h with h | h; exact Or.inl h; exact Or.inr (Or.inl h))]
    simp only [laws_FnRangeCmp.j1, e, if_true]
    exact Tot.here (by simp)
  by_cases o : ROk a b
  case neg => rw [if_neg o]; exact bad (Or.inl o)
  by_cases o' : ROk a' b'
  case neg =>
    simp only [o, o', if_true, decide_false, Bool.not_false]
    exact bad (Or.inr o')
  have r := RCmp_in (c := c) o o'
  simp only [o, o', if_true, decide_true, Bool.not_true, laws_FnRangeCmp.j1, Bool.false_eq_true, if_false]
  rw [rangeIn_eq, rangeIn_eq]
  simp only [Option.bind_some, r.1, r.2.1, decide_true, if_true]
  have e : (decide ((RCmp c a b a' b').1 > (RCmp c a b a' b').2.1) != decide ((RCmp c a b a' b').2.2.1 > (RCmp c a b a' b').2.2.2)) = false := by
    have := r.2.2
    by_cases n : (RCmp c a b a' b').1 > (RCmp c a b a' b').2.1
    · simp only [n, this.mp n, decide_true, bne_self_eq_false]
    · have n' : ¬ (RCmp c a b a' b').2.2.1 > (RCmp c a b a' b').2.2.2 := fun z => n (this.mpr z)
      simp only [n, n', decide_false, bne_self_eq_false]
  rw [e]
  simp only [laws_FnRangeCmp.j2, Bool.false_eq_true, if_false]
  by_cases n : a > b
  · rw [if_pos n]
    simp only [laws_FnRangeCmp.j3, if_true]
    exact Tot.here rfl
  · rw [if_neg n]
    simp only [laws_FnRangeCmp.j3, decide_eq_true_eq]
    refine Tot.ite (fun _ => Tot.here rfl) fun n' => ?_
    exact rangeCmp_l0 hl o o' n n' 8 _ 0 (by omega) (by omega) (by omega)
end Go.Proofs.Ytkekcenlleebeaa.Pure
