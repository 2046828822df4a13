/- For every code the law FnValCmp answers true: where a comparison holds of numbers of two vals, both are left, and what is left was there. Conditions: none beyond those of the given statement. -/
import Derived.Test.YtkekcenlleebeaaLFnValCmpV
namespace Go.Proofs.Ytkekcenlleebeaa.Pure
set_option linter.unusedVariables false
set_option linter.unusedSimpArgs false
open Go.RowKit Go.Proofs.Ytkekcenlleebeaa.PFnValCmp Go.Proofs.Ytkekcenlleebeaa.LFnValCmp Go.Proofs.Ytkekcenlleebeaa.Base Go.Proofs.YtkekcenlleebeaaW.PrintWords Go.Proofs.YtkekcenlleebeaaW.PrintLast Go.Proofs.YtkekcenlleebeaaW.PrintMore

theorem vcmp_l0 {code : List Int} (hc : Bytes code) {c a b m n a' b' m' n' x0 x1 x2 x3 y0 y1 y2 y3 : Int} (hX : ∀ u v, VHas a b m n u → VHas a' b' m' n' v → Cmp c u v → VHas x0 x1 x2 x3 u ∧ VHas y0 y1 y2 y3 v) :
    ∀ (e k : Nat) (i : Int), 0 ≤ i → (8 - i : Int) = e → e + 30 ≤ k → Tot (laws_FnValCmp.l0 k code c i a b m n a' b' m' n' x0 x1 x2 x3 y0 y1 y2 y3) fun r => r = true := by
  intro e
  induction e with
  | zero =>
    intro k i h0 hd hk
    obtain ⟨k, rfl⟩ : ∃ m, k = m + 1 := ⟨k - 1, by omega⟩
    simp only [laws_FnValCmp.l0]
    rw [if_neg (by omega)]
    exact Tot.here rfl
  | succ e ih =>
    intro k i h0 hd hk
    obtain ⟨k, rfl⟩ : ∃ m, k = m + 1 := ⟨k - 1, by omega⟩
    have nx := ih k (i + 1) (by omega) (by omega) (by omega)
    simp only [laws_FnValCmp.l0]
    rw [if_pos (by omega), wrap64_id (x := i + 1) (by omega) (by omega), wrap64_id (x := i + 9) (by omega) (by omega)]
    refine Tot.then (ofVal_tot k (by omega) hc a b m n h0 (by omega)) fun u _ => ?_
    refine Tot.then (ofVal_tot k (by omega) hc a' b' m' n' (by omega) (by omega)) fun v _ => ?_
    refine Tot.then (svalHas_tot (by omega) a b m n u) fun t ht => ?_
    refine Tot.ite (fun x => ?_) (fun _ => nx)
    refine Tot.then (svalHas_tot (by omega) a' b' m' n' v) fun t' ht' => ?_
    refine Tot.ite (fun x' => ?_) (fun _ => nx)
    rw [snumCmp_eq, Option.bind_some]
    refine Tot.ite (fun h => ?_) (fun _ => nx)
    have g := hX u v (ht.mp x) (ht'.mp x') (of_decide_eq_true h)
    rw [valHas_eq k (by omega), Option.bind_some, decide_eq_true g.1, if_pos rfl, valHas_eq k (by omega), Option.bind_some, decide_eq_true g.2, if_pos rfl]
    exact nx

theorem FnValCmp : laws_FnValCmp.Pure := by
  intro l _ _ hw
  have hl := Bytes.of hw
  obtain ⟨K, hK⟩ : ∃ K : Nat, 300000000000000000000 ≤ K := ⟨_, Nat.le_refl _⟩
  refine ⟨K + 3, ?_⟩
  refine Tot.out ?_
  unfold laws_FnValCmp.f
  refine Tot.ite (fun _ => Tot.here rfl) fun _ => ?_
  refine Tot.then (drawValCmp_tot _ (by omega) hl) ?_
  rintro ⟨c, a, b, m, n, a', b', m', n'⟩ -
  dsimp only
  rw [valCmp_eq _ (by omega), svalCmp_eq _ (by omega)]
  have s := VCmp_spec (c := c) (a := a) (b := b) (m := m) (n := n) (a' := a') (b' := b') (m' := m') (n' := n')
  generalize VCmp c a b m n a' b' m' n' = r at s ⊢
  obtain ⟨x0, x1, x2, x3, y0, y1, y2, y3⟩ := r
  dsimp only at s
  obtain ⟨⟨oX, oY⟩, s1, s2, s3⟩ := s
  simp only [Option.bind_some, beq_self_eq_true, Bool.not_true, Bool.or_self, Bool.false_eq_true, if_false]
  rw [valOk_eq _ (by omega), Option.bind_some, decide_eq_true oX, if_pos rfl, valOk_eq _ (by omega), Option.bind_some, decide_eq_true oY]
  simp only [Bool.not_true, laws_FnValCmp.j0, Bool.false_eq_true, if_false]
  have L : ∀ k, 100 ≤ k → Tot (laws_FnValCmp.j2 (k + 1) l c false a b m n a' b' m' n' x0 x1 x2 x3 y0 y1 y2 y3) fun r => r = true := fun k hk => by
    rw [laws_FnValCmp.j2, if_neg (by decide)]
    exact vcmp_l0 hl s3 8 _ 0 (by omega) (by omega) (by omega)
  have J : Tot (laws_FnValCmp.j1 (K + 2) l c false a b m n a' b' m' n' x0 x1 x2 x3 y0 y1 y2 y3) fun r => r = true := by
    rw [laws_FnValCmp.j1, if_neg (by decide)]
    refine Tot.ite (fun _ => L K (by omega)) fun c1 => ?_
    rw [svalOk_eq _ (by omega), Option.bind_some]
    refine Tot.ite (fun o => ?_) fun _ => L K (by omega)
    rw [svalOk_eq _ (by omega), Option.bind_some]
    refine Tot.ite (fun o' => ?_) fun _ => L K (by omega)
    have i := s2 c1 (of_decide_eq_true o) (of_decide_eq_true o')
    refine Tot.then (valIn_tot (by omega) _ _ _ _ _ _ _ _) fun t1 h1 => ?_
    rw [if_pos (h1.mpr i.1)]
    refine Tot.then (valIn_tot (by omega) _ _ _ _ _ _ _ _) fun t2 h2 => ?_
    rw [h2.mpr i.2]
    exact L K (by omega)
  rw [svalOk_eq _ (by omega), Option.bind_some]
  refine Tot.ite (fun _ => ?_) fun _ => J
  rw [svalOk_eq _ (by omega), Option.bind_some]
  refine Tot.ite (fun _ => ?_) fun _ => J
  refine Tot.ite (fun e => ?_) fun _ => J
  have q := s1 e
  rw [if_neg (by omega), if_neg (by omega), if_neg (by omega), decide_eq_false (by omega)]
  exact J
end Go.Proofs.Ytkekcenlleebeaa.Pure
