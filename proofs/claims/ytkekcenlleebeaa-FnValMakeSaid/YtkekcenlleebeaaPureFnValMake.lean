/- For every code the law FnValMake answers true: a val has what its range and its rest both have, and no more, and its ends are numbers of it. Conditions: none beyond those of the given statement. -/
import Derived.Test.YtkekcenlleebeaaLFnValMake
namespace Go.Proofs.Ytkekcenlleebeaa.Pure
set_option linter.unusedVariables false
set_option linter.unusedSimpArgs false
open Go.RowKit Go.Proofs.Ytkekcenlleebeaa.PFnValMake Go.Proofs.Ytkekcenlleebeaa.LFnValMake Go.Proofs.Ytkekcenlleebeaa.Base Go.Proofs.YtkekcenlleebeaaW.PrintWords Go.Proofs.YtkekcenlleebeaaW.PrintLast Go.Proofs.YtkekcenlleebeaaW.PrintMore

theorem val_l0 {code : List Int} (hc : Bytes code) (l h m a : Int) : ∀ (d k : Nat) (i : Int), 0 ≤ i → (6 - i : Int) = d → 2 * d + 30 ≤ k →
    Tot (laws_FnValMake.l0 k code i l h m a (VMake l h m a).1 (VMake l h m a).2.1 (VMake l h m a).2.2.1 (VMake l h m a).2.2.2) fun r => r = true := by
  intro d
  induction d with
  | zero =>
    intro k i h0 hd hk
    obtain ⟨k, rfl⟩ : ∃ m, k = m + 1 := ⟨k - 1, by omega⟩
    simp only [laws_FnValMake.l0]
    rw [if_neg (by omega)]
    exact Tot.here rfl
  | succ d ih =>
    intro k i h0 hd hk
    obtain ⟨k, rfl⟩ : ∃ m, k = m + 2 := ⟨k - 2, by omega⟩
    have nx := ih k (i + 1) (by omega) (by omega) (by omega)
    have J : ∀ u, Tot (laws_FnValMake.j3 (k + 1) code i u l h m a (VMake l h m a).1 (VMake l h m a).2.1 (VMake l h m a).2.2.1 (VMake l h m a).2.2.2) fun r => r = true := by
      intro u
      simp only [laws_FnValMake.j3]
      rw [valHas_eq _ (by omega), srangeHas_eq, srestHas_eq _ (by omega), wrap64_id (x := i + 1) (by omega) (by omega)]
      simp only [Option.bind_some, decide_eq_true_eq]
      have e := VMake_has l h m a u
      by_cases c1 : RHas l h u
      · by_cases c2 : SHas m a u
        · simp only [c1, c2, e.mpr ⟨c1, c2⟩, decide_true, if_true, bne_self_eq_false, Bool.false_eq_true, if_false]; exact nx
        · have : ¬ VHas (VMake l h m a).1 (VMake l h m a).2.1 (VMake l h m a).2.2.1 (VMake l h m a).2.2.2 u := fun x => c2 (e.mp x).2
          simp only [c1, c2, this, decide_false, if_true, bne_self_eq_false, Bool.false_eq_true, if_false]; exact nx
      · have : ¬ VHas (VMake l h m a).1 (VMake l h m a).2.1 (VMake l h m a).2.2.1 (VMake l h m a).2.2.2 u := fun x => c1 (e.mp x).1
        simp only [c1, this, decide_false, bne_self_eq_false, Bool.false_eq_true, if_false]; exact nx
    simp only [laws_FnValMake.l0]
    rw [if_pos (by omega)]
    refine Tot.then (within_tot _ (by omega) hc l h h0 (by omega)) fun u _ => Tot.ite (fun _ => ?_) fun _ => J u
    exact Tot.then (ofRest_tot _ (by omega) hc m a h0 (by omega)) fun u _ => J u

theorem FnValMake : laws_FnValMake.Pure := by
  intro l _ _ hw
  have hl := Bytes.of hw
  obtain ⟨K, hK⟩ : ∃ K : Nat, 300000000000000000000 ≤ K := ⟨_, Nat.le_refl _⟩
  refine ⟨K + 3, ?_⟩
  refine Tot.out ?_
  unfold laws_FnValMake.f
  refine Tot.ite (fun _ => Tot.here rfl) fun _ => ?_
  refine Tot.then (drawValMake_tot _ (by omega) hl) ?_
  rintro ⟨lo, hi, m, a⟩ -
  dsimp only
  rw [valMake_eq _ (by omega), svalMake_eq _ (by omega)]
  simp only [Option.bind_some, beq_self_eq_true, Bool.not_true, Bool.or_self, Bool.false_eq_true, if_false]
  rw [valOk_eq _ (by omega)]
  simp only [Option.bind_some, VMake_ok, decide_true, Bool.not_true, laws_FnValMake.j0, Bool.false_eq_true, if_false]
  rw [valHas_eq _ (by omega), valHas_eq _ (by omega)]
  simp only [Option.bind_some, decide_eq_true_eq]
  have L := val_l0 hl lo hi m a 6 (K + 1) 0 (by omega) (by omega) (by omega)
  refine Tot.ite (fun c => ?_) fun c => ?_
  · have e := VMake_ends c
    have e1 := (VMake_has lo hi m a _).mpr e.1
    have e2 := (VMake_has lo hi m a _).mpr e.2
    simp only [e1, e2, if_true, decide_true, Bool.not_true, laws_FnValMake.j1, Bool.false_eq_true, if_false]
    exact L
  · simp only [laws_FnValMake.j1, Bool.false_eq_true, if_false]
    exact L
end Go.Proofs.Ytkekcenlleebeaa.Pure
