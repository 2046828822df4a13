/- For every code the law FnGapsBack answers true: a number that is moved there and back keeps its gaps. Conditions: none beyond those of the given statement. -/
import Derived.Test.YtkekcenlleebeaaLFnGapsBack
namespace Go.Proofs.Ytkekcenlleebeaa.Pure
set_option linter.unusedVariables false
set_option linter.unusedSimpArgs false
open Go.RowKit Go.Proofs.Ytkekcenlleebeaa.PFnGapsBack Go.Proofs.Ytkekcenlleebeaa.LFnGapsBack Go.Proofs.Ytkekcenlleebeaa.Base Go.Proofs.YtkekcenlleebeaaW.PrintWords Go.Proofs.YtkekcenlleebeaaW.PrintLast Go.Proofs.YtkekcenlleebeaaW.PrintMore

/-- A gap that is told, and no more than a move may bear; or none. -/
def Small (x : Int) : Prop := -4294967296 ≤ x ∧ (x = 1099511627776 ∨ x ≤ 4294967296)
theorem shift_in {x c : Int} (h : Small x) (hc0 : -1000 ≤ c) (hc : c ≤ 1000) : DIn (shift x c) := by
  unfold Small at h; unfold DIn shift
  rw [Int.max_def]
  by_cases q : x ≥ 1099511627776 ∨ x + c ≥ 1099511627776
  · rw [if_pos q]; split <;> omega
  · rw [if_neg q]; split <;> omega
theorem shift_back {x c : Int} (h : Small x) (hc0 : -1000 ≤ c) (hc : c ≤ 1000) : shift (shift x c) (-c) = x := by
  unfold Small at h
  have e : shift x c = if x = 1099511627776 then 1099511627776 else x + c := by
    unfold shift
    rw [Int.max_def]
    by_cases q : x ≥ 1099511627776 ∨ x + c ≥ 1099511627776
    · rw [if_pos q, if_pos (show x = 1099511627776 by omega)]; rw [if_pos (by omega)]
    · rw [if_neg q, if_neg (show ¬ x = 1099511627776 by omega)]; rw [if_pos (by omega)]
  rw [e]
  unfold shift
  rw [Int.max_def]
  by_cases q : x = 1099511627776
  · rw [if_pos q, if_pos (by omega), if_pos (by omega)]; omega
  · rw [if_neg q, if_neg (show ¬ (x + c ≥ 1099511627776 ∨ x + c + -c ≥ 1099511627776) by omega), if_pos (by omega)]; omega
theorem moved_ok {n v c : Int} {d r : List Int} (g : GOk n d) (hv0 : 1 ≤ v) (hv : v ≤ n) (hc0 : -1000 ≤ c) (hc : c ≤ 1000) (sm : ∀ x y : Int, 0 ≤ x → x ≤ n → 0 ≤ y → y ≤ n → Small (gat n d x y)) (m : Moved n v c 0 d d r) : GOk n r := by
  have ga := (GOk.of_all g.1 g.2.1 g.2.2.1).mp g
  have hl := g.2.2.1
  refine (GOk.of_all g.1 g.2.1 (by rw [m.1]; exact hl)).mpr fun i j a b c' e => ?_
  rw [m.2 i j a b c' e]
  by_cases q : i = v ∧ j ≠ v ∧ 0 ≤ j
  · rw [if_pos q]
    exact ⟨shift_in (sm i j a b c' e) hc0 hc, fun f => by omega⟩
  · rw [if_neg q]
    by_cases q2 : j = v ∧ i ≠ v ∧ 0 ≤ i
    · rw [if_pos q2]
      exact ⟨shift_in (sm i j a b c' e) (by omega) (by omega), fun f => by omega⟩
    · rw [if_neg q2]
      exact ga i j a b c' e
theorem moved_back {n v c : Int} {d r r' : List Int} (g : GOk n d) (hv0 : 1 ≤ v) (hv : v ≤ n) (hc0 : -1000 ≤ c) (hc : c ≤ 1000) (sm : ∀ x y : Int, 0 ≤ x → x ≤ n → 0 ≤ y → y ≤ n → Small (gat n d x y)) (m : Moved n v c 0 d d r) (m' : Moved n v (-c) 0 r r r') : r' = d := by
  have hl := g.2.2.1
  have l1 := m.1
  have l2 := m'.1
  apply List.ext_getElem?
  intro p
  by_cases hp : p < d.length
  · obtain ⟨i, j, a, b, c', e, q⟩ := idx_of (p := (p : Int)) g.1 g.2.1 (by omega) (by omega)
    have key : gat n r' i j = gat n d i j := by
      rw [m'.2 i j a b c' e, m.2 i j a b c' e]
      by_cases q : i = v ∧ j ≠ v ∧ 0 ≤ j
      · rw [if_pos q, if_pos q, shift_back (sm i j a b c' e) hc0 hc]
      · rw [if_neg q, if_neg q]
        by_cases q2 : j = v ∧ i ≠ v ∧ 0 ≤ i
        · rw [if_pos q2, if_pos q2]
          exact shift_back (sm i j a b c' e) (by omega) (by omega)
        · rw [if_neg q2, if_neg q2]
    unfold gat rd at key
    rw [← q, List.getD_eq_getElem?_getD, List.getD_eq_getElem?_getD] at key
    have e1 : ((p : Int).toNat) = p := by omega
    rw [e1, List.getElem?_eq_getElem (by omega), List.getElem?_eq_getElem hp] at key
    rw [List.getElem?_eq_getElem (by omega), List.getElem?_eq_getElem hp]
    exact congrArg some key
  · rw [List.getElem?_eq_none (by omega), List.getElem?_eq_none (by omega)]

theorem back_loop {n v c : Int} {d : List Int} (g : GOk n d) (hv0 : 1 ≤ v) (hv : v ≤ n) (hc0 : -1000 ≤ c) (hc : c ≤ 1000) (lo : ∀ q : Int, 0 ≤ q → q < (d.length : Int) → -4294967296 ≤ rd d q) : ∀ (m : Nat) (k : Nat) (p : Int), ((d.length : Int) - p).toNat = m → 0 ≤ p → p ≤ (d.length : Int) → 300000000000000000 + m ≤ k →
    (∀ q : Int, 0 ≤ q → q < p → rd d q = 1099511627776 ∨ rd d q ≤ 4294967296) → Tot (laws_FnGapsBack.l0 k v c p n d) fun r => r = true
  | m, 0, _, _, _, _, h, _ => absurd h (by omega)
  | 0, k + 1, p, hm, hp, hp', hk, hq => by
    have sm9 := len_small g.1 g.2.1 g.2.2.1
    have sm : ∀ x y : Int, 0 ≤ x → x ≤ n → 0 ≤ y → y ≤ n → Small (gat n d x y) := fun x y a b c e => by
      have := idx_in g.1 g.2.1 a b c e
      have hl := g.2.2.1
      exact ⟨lo _ this.1 (by omega), hq _ this.1 (by omega)⟩
    obtain ⟨r, s1, i1, m1⟩ := moves_both (k := k) g v c hv0 hv (by omega) (by omega) (by omega)
    have g1 := moved_ok g hv0 hv hc0 hc sm m1
    obtain ⟨r', s2, i2, m2⟩ := moves_both (k := k) g1 v (-c) hv0 hv (by omega) (by omega) (by omega)
    have back := moved_back g hv0 hv hc0 hc sm m1 m2
    have sm1 := len_small g1.1 g1.2.1 g1.2.2.1
    rw [laws_FnGapsBack.l0, if_neg (show ¬ p < (d.length : Int) by omega), i1, Option.bind_some, wrap64_id (x := -c) (by omega) (by omega)]
    show Tot ((impl_GapsMove.f k n r v v (-c)).bind _) _
    rw [i2, Option.bind_some]
    show Tot ((laws_sameInts.f k r' d).bind _) _
    rw [back, sameInts_refl d (by omega) (by omega), Option.bind_some, if_pos rfl, s1, Option.bind_some]
    show Tot ((laws_sameInts.f k r r).bind _) _
    rw [sameInts_refl r (by omega) (by omega)]
    exact Tot.here rfl
  | m + 1, k + 1, p, hm, hp, hp', hk, hq => by
    have sm9 := len_small g.1 g.2.1 g.2.2.1
    rw [laws_FnGapsBack.l0, if_pos (show p < (d.length : Int) by omega), if_pos hp, wrap64_id (x := p + 1) (by omega) (by omega)]
    have next : (rd d p = 1099511627776 ∨ rd d p ≤ 4294967296) → Tot (laws_FnGapsBack.l0 k v c (p + 1) n d) fun r => r = true := fun z =>
      back_loop g hv0 hv hc0 hc lo m k (p + 1) (by omega) (by omega) (by omega) (by omega) fun q a b => by
        by_cases e : q = p
        · subst e; exact z
        · exact hq q a (by omega)
    exact Tot.ite (fun z => next (.inl z)) fun _ => Tot.ite (fun _ => Tot.here rfl) fun z => next (.inr (by omega))

theorem FnGapsBack : laws_FnGapsBack.Pure := by
  intro l _ _ hw
  have hl := Bytes.of hw
  obtain ⟨K, hK⟩ : ∃ K : Nat, 300000000000000000000 ≤ K := ⟨_, Nat.le_refl _⟩
  refine ⟨K + 1, ?_⟩
  refine Tot.out ?_
  unfold laws_FnGapsBack.f
  refine Tot.ite (fun _ => Tot.here rfl) fun _ => ?_
  refine Tot.then (drawGapsClose_tot hl (by omega)) ?_
  rintro ⟨n, d⟩ -
  obtain ⟨⟨r1, r2, r3⟩, e1, e2, e3, e4⟩ := close_full (k := K + 1) n d (by omega)
  show Tot ((impl_GapsClose.f (K + 1) n d).bind _) _
  rw [e2, Option.bind_some]
  show Tot ((spec_GapsClose.f (K + 1) n d).bind _) _
  rw [e1, Option.bind_some, if_neg (show ¬ (((r1, r2, r3).2.2 != (r1, r2, r3).2.2) = true) by simp)]
  have stop : Tot (laws_FnGapsBack.j0 (K + 1) l true r1 r2) fun r => r = true := by
    rw [laws_FnGapsBack.j0, if_pos rfl]; exact Tot.here rfl
  refine Tot.ite (fun ok => ?_) (fun _ => stop)
  obtain ⟨g0, f1, g, lo⟩ := e4 ok
  have f1 : r1 = n := f1
  have g : GOk n r2 := g
  subst f1
  show Tot (laws_FnGapsBack.j0 (K + 1) l (decide (r1 < 1)) r1 r2) _
  by_cases c : r1 < 1
  · rw [decide_eq_true c]; exact stop
  · have h12 := g.2.1
    rw [decide_eq_false c, laws_FnGapsBack.j0, if_neg (show ¬ (false = true) by decide)]
    refine Tot.then (at_tot hl (by omega) (by omega)) ?_
    intro a ⟨a0, a1⟩
    rw [if_neg (show ¬ r1 = 0 by omega)]
    refine Tot.then (at_tot hl (by omega) (by omega)) ?_
    intro b ⟨b0, b1⟩
    have t1 := tmod_lt (a := a) (b := r1) (by omega)
    have t0 := tmod_nonneg (a := a) (b := r1) a0
    have u1 := tmod_lt (a := b) (b := 2001) (by omega)
    have u0 := tmod_nonneg (a := b) (b := 2001) b0
    rw [wrap64_id (x := a) (by omega) (by omega), wrap64_id (x := b) (by omega) (by omega), wrap64_id (x := 1 + Int.tmod a r1) (by omega) (by omega), wrap64_id (x := Int.tmod b 2001 - 1000) (by omega) (by omega)]
    have sm9 := len_small g.1 g.2.1 g.2.2.1
    exact back_loop g (by omega) (by omega) (by omega) (by omega) lo _ K 0 rfl (by omega) (by omega) (by omega) (fun q a b => absurd a (by omega))
end Go.Proofs.Ytkekcenlleebeaa.Pure
