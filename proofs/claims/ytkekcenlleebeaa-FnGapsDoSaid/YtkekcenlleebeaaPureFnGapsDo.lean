/- For every code the law FnGapsDo answers true: what is done to numbers may be done to their gaps. Conditions: none beyond those of the given statement. -/
import Derived.Test.YtkekcenlleebeaaLFnGapsDo
namespace Go.Proofs.Ytkekcenlleebeaa.Pure
set_option linter.unusedVariables false
set_option linter.unusedSimpArgs false
open Go.RowKit Go.Proofs.Ytkekcenlleebeaa.PFnGapsDo Go.Proofs.Ytkekcenlleebeaa.LFnGapsDo Go.Proofs.Ytkekcenlleebeaa.Base Go.Proofs.YtkekcenlleebeaaW.PrintWords Go.Proofs.YtkekcenlleebeaaW.PrintLast Go.Proofs.YtkekcenlleebeaaW.PrintMore

theorem numAt_pos {l : List Int} {v : Int} (h : 1 ≤ v) : numAt l v = rd l (v - 1) := by
  unfold numAt
  rw [if_neg (by omega)]
theorem do_j3 {k : Nat} {l0 l : List Int} (hl0 : Bytes l0) {n v w c : Int} {d f2 m2 : List Int} (h : Has n d l) (hv0 : 1 ≤ v) (hv : v ≤ n) (hw0 : 0 ≤ w) (hw : w ≤ n) (hc0 : -5 ≤ c) (hc : c ≤ 5) (hk : 10000 ≤ k)
    (ff : Forgot n v 0 d f2) (mm : NIn (numAt l w + c) → Has n m2 (l.set (v - 1).toNat (numAt l w + c))) : Tot (laws_FnGapsDo.j3 k l0 l v c (numAt l w) false n f2 n m2) fun r => r = true := by
  obtain ⟨k, rfl⟩ : ∃ j, k = j + 1 := ⟨k - 1, by omega⟩
  have ll := h.2.1
  have n12 := h.1.2.1
  have wi := numAt_in ll h.2.2.1 hw0 hw
  unfold NIn at wi
  rw [laws_FnGapsDo.j3, if_neg (show ¬ (false = true) by decide), Option.bind_some, if_pos (show ([] : List Int).length + l.length < 17592186044416 by simp; omega), Option.bind_some]
  refine Tot.then (wide_tot hl0 (by omega) (by omega)) ?_
  intro t _
  rw [snumwrap_eq, Option.bind_some, wrap64_id (x := v - 1) (by omega) (by omega), if_pos (show 0 ≤ v - 1 by omega), List.nil_append, if_pos (show v - 1 < (l.length : Int) by omega), Option.bind_some]
  have u := wrap32_in t
  have h1 := has_forgot h hv0 hv ff (u := wrap32 t) u
  refine Tot.then (has_tot n f2 _ (by omega)) ?_
  intro b hb
  rw [hb.mpr h1, if_pos rfl, wrap64_id (x := numAt l w + c) (by omega) (by omega), snumOk_in, Option.bind_some]
  by_cases q : -2147483648 ≤ numAt l w + c ∧ numAt l w + c ≤ 2147483647
  · rw [decide_eq_true q, if_pos rfl, List.set_set]
    refine Tot.then (has_tot n m2 _ (by omega)) ?_
    intro b' hb'
    rw [hb'.mpr (mm q)]
    exact Tot.here rfl
  · rw [decide_eq_false q, if_neg (show ¬ (false = true) by decide)]
    exact Tot.here rfl
theorem do_j0 {k : Nat} {l0 l : List Int} (hl0 : Bytes l0) {n v w c f1 m1 t1 : Int} {d f2 m2 t2 : List Int} (hl : l.length ≤ 13) (hv0 : 1 ≤ v) (hv : v ≤ l.length + 1) (hw0 : 0 ≤ w) (hw : w ≤ l.length) (hc0 : -5 ≤ c) (hc : c ≤ 5) (hk : 9000000 ≤ k)
    (ef : impl_GapsForget.f (k + 10) n d v = some (f1, f2)) (em : impl_GapsMove.f (k + 10) n d v w c = some (m1, m2)) (et : impl_GapsCut.f (k + 10) n d v w c = some (t1, t2)) : Tot (laws_FnGapsDo.j0 (k + 10) l0 l v w c false n d f1 f2 m1 m2 t1 t2) fun r => r = true := by
  rw [laws_FnGapsDo.j0, if_neg (show ¬ (false = true) by decide)]
  have no : ∀ x, x = true → Tot (laws_FnGapsDo.j1 (k + 9) l0 l v w c x n d f1 f2 m1 m2 t1 t2) fun r => r = true := fun x hx => by
    rw [laws_FnGapsDo.j1, if_pos hx]; exact Tot.here rfl
  refine Tot.then (sHas_tot n d l (by omega)) ?_
  intro b hb
  refine Tot.ite (fun c1 => ?_) (fun _ => no _ rfl)
  have h := hb.mp c1
  by_cases q : v > (l.length : Int)
  · exact no _ (decide_eq_true q)
  rw [decide_eq_false q, laws_FnGapsDo.j1, if_neg (show ¬ (false = true) by decide)]
  have g := h.1
  have ll := h.2.1
  have hv' : v ≤ n := by omega
  have hw' : w ≤ n := by omega
  have n12 := g.2.1
  have vi := numAt_in ll h.2.2.1 (show 0 ≤ v by omega) hv'
  have wi := numAt_in ll h.2.2.1 hw0 hw'
  rw [range_yes g hv0 hv' (by omega), Option.bind_some, wrap64_id (x := v - 1) (by omega) (by omega), if_pos (show 0 ≤ v - 1 by omega), if_pos (show v - 1 < (l.length : Int) by omega), rangeHas_eq, Option.bind_some]
  have has : RHas (RFrom (-(gat n d 0 v)) (gat n d v 0)).1 (RFrom (-(gat n d 0 v)) (gat n d v 0)).2 (rd l (v - 1)) := by
    rw [RFrom_has, ← numAt_pos hv0]
    have a1 := h.2.2.2 v 0 (by omega) hv' (by omega) (by omega)
    have a2 := h.2.2.2 0 v (by omega) (by omega) (by omega) hv'
    have z : numAt l 0 = 0 := rfl
    exact ⟨vi, by omega, by omega⟩
  rw [decide_eq_true has, if_pos rfl]
  obtain ⟨fr, e1, _, ff⟩ := forgot_both (k := k + 10) g v hv0 hv' (by omega)
  rw [ef] at e1
  obtain ⟨rfl, rfl⟩ := Prod.mk.inj (Option.some.inj e1)
  have key : Tot (laws_FnGapsDo.j2 (k + 8) l0 l v w c (numAt l w) f1 f2 m1 m2 t1 t2) fun r => r = true := by
    rw [laws_FnGapsDo.j2]
    by_cases e : v = w
    · subst e
      rw [if_pos rfl]
      obtain ⟨r, _, e2, mv⟩ := moves_both (k := k + 10) g v c hv0 hv' (by omega) (by omega) (by omega)
      rw [em] at e2
      obtain ⟨rfl, rfl⟩ := Prod.mk.inj (Option.some.inj e2)
      exact do_j3 hl0 h hv0 hv' hw0 hw' hc0 hc (by omega) ff (fun u => has_moved h hv0 hv' (by omega) (by omega) mv u)
    · rw [if_neg e]
      obtain ⟨f, ff', e2⟩ := moveto_yes (k := k + 10) g hv0 hv' hw0 hw' e (c := c) (by omega) (by omega) (by omega)
      rw [em] at e2
      obtain ⟨rfl, rfl⟩ := Prod.mk.inj (Option.some.inj e2)
      have e3 := cut_yes (k := k + 10) g (show 0 ≤ v by omega) hv' hw0 hw' e (c := c) (by omega) (by omega) (by omega)
      rw [et] at e3
      obtain ⟨rfl, rfl⟩ := Prod.mk.inj (Option.some.inj e3)
      have hc' := has_cut h (show 0 ≤ v by omega) hv' hw0 hw' e (c := c) (by omega) (by omega)
      refine Tot.then (has_tot _ _ _ (by omega)) ?_
      intro b2 hb2
      unfold NIn at vi wi
      rw [if_pos (show 0 ≤ wrap64 (v - 1) by rw [wrap64_id (by omega) (by omega)]; omega), if_pos (show wrap64 (v - 1) < (l.length : Int) by rw [wrap64_id (by omega) (by omega)]; omega), wrap64_id (x := v - 1) (by omega) (by omega), ← numAt_pos hv0, wrap64_id (x := numAt l v - numAt l w) (by omega) (by omega)]
      have same : (b2 != decide (numAt l v - numAt l w ≤ c)) = false := by
        have := hb2.trans hc'
        cases b2 with
        | true => rw [decide_eq_true (this.mp rfl)]; rfl
        | false => rw [decide_eq_false (fun z => by have := this.mpr z; cases this)]; rfl
      rw [same]
      exact do_j3 hl0 h hv0 hv' hw0 hw' hc0 hc (by omega) ff (fun u => has_moveto h hv0 hv' hw0 hw' e (by omega) (by omega) ff' u)
  by_cases e : w > 0
  · rw [if_pos e, wrap64_id (x := w - 1) (by omega) (by omega), if_pos (show 0 ≤ w - 1 by omega), if_pos (show w - 1 < (l.length : Int) by omega), ← numAt_pos (show 1 ≤ w by omega)]
    exact key
  · rw [if_neg e]
    have z : numAt l w = 0 := by unfold numAt; rw [if_pos (by omega)]
    rw [z] at key
    exact key
theorem FnGapsDo : laws_FnGapsDo.Pure := by
  intro l0 _ _ hw
  have hl0 := Bytes.of hw
  obtain ⟨K, hK⟩ : ∃ K : Nat, 300000000000000000000 ≤ K := ⟨_, Nat.le_refl _⟩
  refine ⟨K + 10, ?_⟩
  refine Tot.out ?_
  unfold laws_FnGapsDo.f
  refine Tot.ite (fun _ => Tot.here rfl) fun _ => ?_
  refine Tot.then (drawGapsHas_tot hl0 (by omega)) ?_
  rintro ⟨n, d, l⟩ ⟨-, hl⟩
  have hl : l.length ≤ 13 := hl
  dsimp only
  refine Tot.then (at_tot hl0 (by omega) (by omega)) ?_
  intro a ⟨a0, a1⟩
  rw [wrap64_id (x := (l.length : Int) + 1) (by omega) (by omega), if_neg (show ¬ (l.length : Int) + 1 = 0 by omega)]
  refine Tot.then (at_tot hl0 (by omega) (by omega)) ?_
  intro b ⟨b0, b1⟩
  refine Tot.then (at_tot hl0 (by omega) (by omega)) ?_
  intro c ⟨c0, c1⟩
  have t1 := tmod_lt (a := a) (b := (l.length : Int) + 1) (by omega)
  have t0 := tmod_nonneg (a := a) (b := (l.length : Int) + 1) a0
  have u1 := tmod_lt (a := b) (b := (l.length : Int) + 1) (by omega)
  have u0 := tmod_nonneg (a := b) (b := (l.length : Int) + 1) b0
  have w1 := tmod_lt (a := c) (b := 11) (by omega)
  have w0 := tmod_nonneg (a := c) (b := 11) c0
  rw [wrap64_id (x := a) (by omega) (by omega), wrap64_id (x := b) (by omega) (by omega), wrap64_id (x := c) (by omega) (by omega), wrap64_id (x := 1 + Int.tmod a ((l.length : Int) + 1)) (by omega) (by omega), wrap64_id (x := Int.tmod c 11 - 5) (by omega) (by omega)]
  generalize hv : 1 + Int.tmod a ((l.length : Int) + 1) = v
  generalize hw : Int.tmod b ((l.length : Int) + 1) = w
  generalize hc : Int.tmod c 11 - 5 = e
  obtain ⟨⟨f1, f2⟩, p1, p2, p3, _⟩ := forget_both (k := K + 10) n d v (by omega)
  obtain ⟨⟨m1, m2⟩, q1, q2, q3⟩ := move_both (k := K + 10) n d v w e (by omega)
  obtain ⟨⟨x1, x2⟩, r1, r2, r3⟩ := cut_both (k := K + 10) n d v w e (by omega)
  have p3 : f2.length ≤ 169 := p3
  have q3 : m2.length ≤ 169 := q3
  have r3 : x2.length ≤ 169 := r3
  rw [p2, Option.bind_some, q2, Option.bind_some, r2, Option.bind_some, p1, Option.bind_some]
  show Tot ((laws_sameInts.f (K + 10) f2 f2).bind _) _
  rw [sameInts_refl f2 (by omega) (by omega), Option.bind_some, if_pos rfl, q1, Option.bind_some]
  show Tot ((laws_sameInts.f (K + 10) m2 m2).bind _) _
  rw [sameInts_refl m2 (by omega) (by omega), Option.bind_some, if_pos rfl, r1, Option.bind_some]
  show Tot ((laws_sameInts.f (K + 10) x2 x2).bind _) _
  rw [sameInts_refl x2 (by omega) (by omega), Option.bind_some]
  exact do_j0 hl0 hl (by omega) (by omega) (by omega) (by omega) (by omega) (by omega) (by omega) p2 q2 r2
end Go.Proofs.Ytkekcenlleebeaa.Pure
