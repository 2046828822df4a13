/- For every code the law FnValLattice answers true: what one of two vals has the join has and what is widened, and what both have the meet has. Conditions: none beyond those of the given statement. -/
import Derived.Test.YtkekcenlleebeaaLFnValLattice
namespace Go.Proofs.Ytkekcenlleebeaa.Pure
set_option linter.unusedVariables false
set_option linter.unusedSimpArgs false
open Go.RowKit Go.Proofs.Ytkekcenlleebeaa.PFnValLattice Go.Proofs.Ytkekcenlleebeaa.LFnValLattice Go.Proofs.Ytkekcenlleebeaa.Base Go.Proofs.YtkekcenlleebeaaW.PrintWords Go.Proofs.YtkekcenlleebeaaW.PrintLast Go.Proofs.YtkekcenlleebeaaW.PrintMore

theorem lat_l0 {code : List Int} (hc : Bytes code) {a b c d a' b' c' d' m0 m1 m2 m3 w0 w1 w2 w3 : Int} (hW : ∀ u, VHas a b c d u → VHas w0 w1 w2 w3 u) (hM : ∀ u, VHas a b c d u → VHas a' b' c' d' u → VHas m0 m1 m2 m3 u) :
    ∀ (e k : Nat) (i : Int), 0 ≤ i → (6 - i : Int) = e → e + 30 ≤ k → Tot (laws_FnValLattice.l0 k code i a b c d a' b' c' d' m0 m1 m2 m3 w0 w1 w2 w3) fun r => r = true := by
  intro e
  induction e with
  | zero =>
    intro k i h0 hd hk
    obtain ⟨k, rfl⟩ : ∃ m, k = m + 1 := ⟨k - 1, by omega⟩
    simp only [laws_FnValLattice.l0]
    rw [if_neg (by omega)]
    exact Tot.here rfl
  | succ e ih =>
    intro k i h0 hd hk
    obtain ⟨k, rfl⟩ : ∃ m, k = m + 1 := ⟨k - 1, by omega⟩
    have nx := ih k (i + 1) (by omega) (by omega) (by omega)
    simp only [laws_FnValLattice.l0]
    rw [if_pos (by omega), wrap64_id (x := i + 1) (by omega) (by omega)]
    refine Tot.then (ofVal_tot k (by omega) hc a b c d h0 (by omega)) fun u _ => ?_
    refine Tot.then (svalHas_tot (by omega) a b c d u) fun t ht => ?_
    refine Tot.ite (fun x => ?_) (fun _ => nx)
    have hA := ht.mp x
    rw [valHas_eq k (by omega), Option.bind_some, decide_eq_true (hW u hA), if_pos rfl]
    refine Tot.then (svalHas_tot (by omega) a' b' c' d' u) fun t' ht' => ?_
    refine Tot.ite (fun x' => ?_) (fun _ => nx)
    rw [valHas_eq k (by omega), Option.bind_some, decide_eq_true (hM u hA (ht'.mp x')), if_pos rfl]
    exact nx

theorem FnValLattice : laws_FnValLattice.Pure := by
  intro l _ _ hw
  have hl := Bytes.of hw
  obtain ⟨K, hK⟩ : ∃ K : Nat, 300000000000000000000 ≤ K := ⟨_, Nat.le_refl _⟩
  refine ⟨K + 3, ?_⟩
  refine Tot.out ?_
  unfold laws_FnValLattice.f
  refine Tot.ite (fun _ => Tot.here rfl) fun _ => ?_
  refine Tot.then (drawValWiden_tot _ (by omega) hl) ?_
  rintro ⟨a, b, c, d, a', b', c', d', xs⟩ hx
  dsimp only at hx ⊢
  rw [valJoin_eq _ (by omega), svalJoin_eq _ (by omega), valMeet_eq _ (by omega), svalMeet_eq _ (by omega), valWiden_eq _ (by omega) _ _ _ _ _ _ _ _ _ (by omega), svalWiden_eq _ (by omega) _ _ _ _ _ _ _ _ _ (by omega)]
  simp only [Option.bind_some, beq_self_eq_true, Bool.not_true, Bool.or_self, Bool.false_eq_true, if_false, laws_FnValLattice.j0]
  rw [svalOk_eq _ (by omega), Option.bind_some]
  have bad : ¬ VOk a b c d ∨ ¬ VOk a' b' c' d' → Tot (laws_FnValLattice.j1 (K + 2) l true a b c d a' b' c' d' (VJoin a b c d a' b' c' d').1 (VJoin a b c d a' b' c' d').2.1 (VJoin a b c d a' b' c' d').2.2.1 (VJoin a b c d a' b' c' d').2.2.2 (VMeet a b c d a' b' c' d').1 (VMeet a b c d a' b' c' d').2.1 (VMeet a b c d a' b' c' d').2.2.1 (VMeet a b c d a' b' c' d').2.2.2 (VWiden a b c d a' b' c' d' xs).1 (VWiden a b c d a' b' c' d' xs).2.1 (VWiden a b c d a' b' c' d' xs).2.2.1 (VWiden a b c d a' b' c' d' xs).2.2.2) fun r => r = true := by
    intro h
    have e1 : VJoin a b c d a' b' c' d' = (1, 0, 0, 0) := by unfold VJoin; rw [if_pos h]
    have e2 : VMeet a b c d a' b' c' d' = (1, 0, 0, 0) := by unfold VMeet; rw [if_pos (h.elim .inl fun q => .inr (.inl q))]
    simp only [laws_FnValLattice.j1, e1, e2]
    exact Tot.here (by simp)
  by_cases o : VOk a b c d
  case neg => rw [decide_eq_false o, if_neg (by decide)]; exact bad (.inl o)
  rw [decide_eq_true o, if_pos rfl, svalOk_eq _ (by omega), Option.bind_some]
  by_cases o' : VOk a' b' c' d'
  case neg => rw [decide_eq_false o']; exact bad (.inr o')
  rw [decide_eq_true o']
  simp only [Bool.not_true, laws_FnValLattice.j1, Bool.false_eq_true, if_false]
  have i1 := vin_join_left o o'
  have i2 := vin_join_right o o'
  have i3 : VIn _ _ _ _ _ _ _ _ := vin_join_widen (a := a) (b := b) (c := c) (d := d) (a' := a') (b' := b') (c' := c') (d' := d') xs
  refine Tot.then (valIn_tot (by omega) _ _ _ _ _ _ _ _) fun t1 h1 => ?_
  rw [if_pos (h1.mpr i1)]
  refine Tot.then (valIn_tot (by omega) _ _ _ _ _ _ _ _) fun t2 h2 => ?_
  rw [if_pos (h2.mpr i2)]
  refine Tot.then (valIn_tot (by omega) _ _ _ _ _ _ _ _) fun t3 h3 => ?_
  rw [h3.mpr i3]
  simp only [Bool.not_true, laws_FnValLattice.j2, Bool.false_eq_true, if_false]
  exact lat_l0 hl (fun u x => i3.has (i1.has x)) (fun u x y => vmeet_has x y) 6 _ 0 (by omega) (by omega) (by omega)
end Go.Proofs.Ytkekcenlleebeaa.Pure
