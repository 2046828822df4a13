/- The program's GapsJoin and the reference's tell the same at every argument, and the answer is a row of its own. Conditions: those in each law. -/
import Derived.Test.YtmdcgkkkfncieaaLFnExactGapsJoin
import Derived.Test.YtmdcgkkkfncieaaQFnExactGapsJoinx4
namespace Go.Proofs.Ytmdcgkkkfncieaa.Pure
set_option linter.unusedVariables false
set_option linter.unusedSimpArgs false
open Go.RowKit Go.Proofs.Ytmdcgkkkfncieaa.PFnExactGapsJoin Go.Proofs.Ytmdcgkkkfncieaa.LFnExactGapsJoin Go.Proofs.Ytmdcgkkkfncieaa.Base Go.Proofs.YtmdcgkkkfncieaaW.PrintWords Go.Proofs.YtmdcgkkkfncieaaW.PrintLast Go.Proofs.YtmdcgkkkfncieaaW.PrintMore

theorem both {k : Nat} (n : Int) (d : List Int) (n' : Int) (d' : List Int) (hk : 3000000 ≤ k) : ∃ r, spec_GapsJoin.f k n d n' d' = some r ∧ impl_GapsJoin.f k n d n' d' = some r ∧ r.2.length ≤ 169 := by
  obtain ⟨k, rfl⟩ : ∃ j, k = j + 1 := ⟨k - 1, by omega⟩
  have ino : impl_GapsJoin.j0 (k + 1) true n d n' d' = some (0, []) := by rw [impl_GapsJoin.j0]; rfl
  unfold spec_GapsJoin.f impl_GapsJoin.f
  obtain ⟨b, hb, hb'⟩ := sl11Two_eq (k := k + 1) n d n' d' (by omega)
  rw [hb, Option.bind_some]
  by_cases g : GOk n d
  · rw [gapsOk_yes g (by omega), Option.bind_some, if_pos (show true = true from rfl)]
    by_cases g' : GOk n' d'
    · rw [gapsOk_yes g' (by omega), Option.bind_some, if_pos (show true = true from rfl)]
      by_cases e : n = n'
      · subst e
        have ne : (n != n) = false := by simp
        have hbt : b = true := hb'.mpr ⟨g, g', rfl⟩
        have sm := len_small g.1 g.2.1 g.2.2.1
        have sm' := len_small g'.1 g'.2.1 g'.2.2.1
        have l1 := g.2.2.1
        have l2 := g'.2.2.1
        rw [hbt, ne, if_pos (show true = true from rfl), impl_GapsJoin.j0, if_neg (show ¬ (false = true) by decide), clone_eq n d (by omega), Option.bind_some]
        obtain ⟨r, e1, e2, e3⟩ := join_loop d d' n n sm (by omega) d.length (k + 1) k 0 [] d (by omega) (by omega) (by omega) rfl rfl (fun j h => absurd h (by omega)) (fun j _ => rfl)
        exact ⟨(n, r), e1, e2, e3⟩
      · have ne : (n != n') = true := by simp [e]
        have hbf : b = false := by cases b with | false => rfl | true => exact absurd (hb'.mp rfl).2.2 e
        rw [hbf, ne, if_neg (show ¬ (false = true) by decide)]
        exact ⟨_, rfl, ino, by simp⟩
    · have hbf : b = false := by cases b with | false => rfl | true => exact absurd (hb'.mp rfl).2.1 g'
      rw [gapsOk_no g' (by omega), Option.bind_some, hbf, if_neg (show ¬ (false = true) by decide), if_neg (show ¬ (false = true) by decide)]
      exact ⟨_, rfl, ino, by simp⟩
  · have hbf : b = false := by cases b with | false => rfl | true => exact absurd (hb'.mp rfl).1 g
    rw [gapsOk_no g (by omega), Option.bind_some, hbf, if_neg (show ¬ (false = true) by decide), if_neg (show ¬ (false = true) by decide)]
    exact ⟨_, rfl, ino, by simp⟩

theorem FnExactGapsJoin (n : Int) (d : List Int) (n' : Int) (d' : List Int) (hl : d.length * 8 ≤ 140737488351232) (hl' : d'.length * 8 ≤ 140737488351232) : ∃ k, laws_FnExactGapsJoin.f k n d n' d' = some true := by
  obtain ⟨K, hK⟩ : ∃ K : Nat, 300000000000000000000 ≤ K := ⟨_, Nat.le_refl _⟩
  refine ⟨K + 1, ?_⟩
  unfold laws_FnExactGapsJoin.f
  rw [szGaps_eq n d 1048576 (by omega) (by omega) (by omega), Option.bind_some]
  by_cases cL : (d.length : Int) ≤ 1048576
  · rw [if_pos cL, if_neg (show ¬ (1048576 - (d.length : Int) < 0) by omega), szGaps_eq n' d' _ (by omega) (by omega) (by omega), Option.bind_some]
    by_cases cR : (d'.length : Int) ≤ 1048576 - (d.length : Int)
    · rw [if_pos cR, if_neg (show ¬ (1048576 - (d.length : Int) - (d'.length : Int) < 0) by omega)]
      rw [toGaps_eq n d (by omega) (by omega), Option.bind_some, toGaps_eq n' d' (by omega) (by omega), Option.bind_some]
      obtain ⟨⟨r1, r2⟩, e1, e2, e3⟩ := both (k := K + 1) n d n' d' (by omega)
      have e3 : r2.length ≤ 169 := e3
      have e2' : impl_GapsJoin.f K n d n' d' = some (r1, r2) := by
        obtain ⟨⟨q1, q2⟩, g1, g2, g3⟩ := both (k := K) n d n' d' (by omega)
        have := impl_GapsJoin.mono n d n' d' K _ g2
        rw [this] at e2
        rw [g2, e2]
      show (spec_GapsJoin.f (K + 1) n d n' d').bind _ = _
      rw [e1, Option.bind_some, Option.bind_some, Option.bind_some]
      show (impl_GapsJoin.f (K + 1) n d n' d').bind _ = _
      rw [e2, Option.bind_some]
      show (laws_eqGaps.f (K + 1) r1 r2 r1 r2).bind _ = _
      rw [eqGaps_refl r1 r2 (by omega) (by omega), Option.bind_some, if_pos rfl, Option.bind_some]
      show (laws_eqGaps.f (K + 1) n d n d).bind _ = _
      rw [eqGaps_refl n d (by omega) (by omega), Option.bind_some, if_pos rfl, Option.bind_some]
      show (laws_eqGaps.f (K + 1) n' d' n' d').bind _ = _
      rw [eqGaps_refl n' d' (by omega) (by omega), Option.bind_some, if_pos rfl]
      obtain ⟨y, m1, _⟩ := mark_held (k := K + 1) n n d (by omega) (by omega) 1 (by omega) (by omega)
      show (laws_markGaps.f (K + 1) n d 1).bind _ = _
      rw [m1, Option.bind_some]
      obtain ⟨y', m1', _⟩ := mark_held (k := K + 1) n' n' d' (by omega) (by omega) (1 + d.length) (by omega) (by omega)
      show (laws_markGaps.f (K + 1) n' d' (1 + (d.length : Int))).bind _ = _
      rw [m1', Option.bind_some, if_neg (show ¬ ((1 + (d.length : Int) + (d'.length : Int), y').1 < 0) by show ¬ (1 + (d.length : Int) + (d'.length : Int) < 0); omega), Option.bind_some]
      show laws_FnExactGapsJoin.j0 (K + 1) false n d n' d' r1 r2 r1 r2 = _
      obtain ⟨z, m2, m3⟩ := mark_held (k := K) r1 r1 r2 (by omega) (by omega) 1 (by omega) (by omega)
      rw [laws_FnExactGapsJoin.j0, if_neg (show ¬ (false = true) by decide), m2, Option.bind_some]
      rw [m3, Option.bind_some, if_neg (show ¬ (1 + (r2.length : Int) < 0) by omega), if_pos (show 1 + (r2.length : Int) = (1 + (r2.length : Int), z).1 from rfl), toGaps_eq n d (by omega) (by omega), Option.bind_some, toGaps_eq n' d' (by omega) (by omega), Option.bind_some]
      show (impl_GapsJoin.f K n d n' d').bind _ = _
      rw [e2', Option.bind_some]
      show (laws_eqGaps.f K r1 r2 r1 r2).bind _ = _
      rw [eqGaps_refl r1 r2 (by omega) (by omega), Option.bind_some, if_pos rfl, Option.bind_some, if_neg (show ¬ (1 + (r2.length : Int) < 0) by omega), if_pos (show 1 + (r2.length : Int) = (1 + (r2.length : Int), z).1 from rfl)]
    · rw [if_neg cR, if_pos (by omega)]
  · rw [if_neg cL, if_pos (by omega)]
end Go.Proofs.Ytmdcgkkkfncieaa.Pure
