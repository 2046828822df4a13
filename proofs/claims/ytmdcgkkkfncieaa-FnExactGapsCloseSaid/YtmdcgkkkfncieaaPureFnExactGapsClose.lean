/- The program's GapsClose and the reference's tell the same at every argument, and the answer is a row of its own. Conditions: those in each law. -/
import Derived.Test.YtmdcgkkkfncieaaLFnExactGapsClose
import Derived.Test.YtmdcgkkkfncieaaQFnExactGapsClosex1
import Derived.Test.YtmdcgkkkfncieaaQFnExactGapsClosex5
namespace Go.Proofs.Ytmdcgkkkfncieaa.Pure
set_option linter.unusedVariables false
set_option linter.unusedSimpArgs false
open Go.RowKit Go.Proofs.Ytmdcgkkkfncieaa.PFnExactGapsClose Go.Proofs.Ytmdcgkkkfncieaa.LFnExactGapsClose Go.Proofs.Ytmdcgkkkfncieaa.Base Go.Proofs.YtmdcgkkkfncieaaW.PrintWords Go.Proofs.YtmdcgkkkfncieaaW.PrintLast Go.Proofs.YtmdcgkkkfncieaaW.PrintMore

theorem FnExactGapsClose (n : Int) (d : List Int) (hl : d.length * 8 ≤ 140737488351232) : ∃ k, laws_FnExactGapsClose.f k n d = some true := by
  obtain ⟨K, hK⟩ : ∃ K : Nat, 300000000000000000000 ≤ K := ⟨_, Nat.le_refl _⟩
  refine ⟨K + 1 + 1 + 1, ?_⟩
  unfold laws_FnExactGapsClose.f
  rw [szGaps_eq n d 1048576 (by omega) (by omega) (by omega), Option.bind_some]
  by_cases cL : (d.length : Int) ≤ 1048576
  · rw [if_pos cL, if_neg (show ¬ (1048576 - (d.length : Int) < 0) by omega)]
    rw [toGaps_eq n d (by omega) (by omega), Option.bind_some]
    obtain ⟨⟨r1, r2, r3⟩, e1, e2, e3⟩ := close_both (k := K + 1 + 1 + 1) n d (by omega)
    have e3 : r2.length ≤ 169 := e3
    have e2' : impl_GapsClose.f (K + 1) n d = some (r1, r2, r3) := by
      obtain ⟨⟨q1, q2, q3⟩, g1, g2, g3⟩ := close_both (k := K + 1) n d (by omega)
      have := impl_GapsClose.mono n d (K + 1 + 1) _ (impl_GapsClose.mono n d (K + 1) _ g2)
      rw [this] at e2
      rw [g2, e2]
    show (spec_GapsClose.f (K + 1 + 1 + 1) n d).bind _ = _
    rw [e1, Option.bind_some, Option.bind_some]
    show (impl_GapsClose.f (K + 1 + 1 + 1) n d).bind _ = _
    rw [e2, Option.bind_some]
    show (laws_eqGaps.f (K + 1 + 1 + 1) r1 r2 r1 r2).bind _ = _
    rw [eqGaps_refl r1 r2 (by omega) (by omega), Option.bind_some, if_pos rfl]
    show laws_FnExactGapsClose.j0 (K + 1 + 1 + 1) r3 r3 (r3 != r3) n d r1 r2 n d r1 r2 = _
    have ne : (r3 != r3) = false := by simp
    rw [ne, laws_FnExactGapsClose.j0, if_neg (show ¬ (false = true) by decide), toGaps_eq n d (by omega) (by omega), Option.bind_some]
    show (laws_eqGaps.f (K + 1 + 1) n d n d).bind _ = _
    obtain ⟨y, m1, _⟩ := mark_held (k := K + 1 + 1) n n d (by omega) (by omega) 1 (by omega) (by omega)
    rw [eqGaps_refl n d (by omega) (by omega), Option.bind_some, if_pos rfl, m1, Option.bind_some, if_neg (show ¬ ((1 + (d.length : Int), y).1 < 0) by show ¬ (1 + (d.length : Int) < 0); omega), eqGaps_refl r1 r2 (by omega) (by omega), Option.bind_some, if_pos rfl, ne]
    obtain ⟨z, m2, m3⟩ := mark_held (k := K + 1) r1 r1 r2 (by omega) (by omega) 1 (by omega) (by omega)
    rw [laws_FnExactGapsClose.j1, if_neg (show ¬ (false = true) by decide), m2, Option.bind_some, m3, Option.bind_some, if_neg (show ¬ (1 + (r2.length : Int) < 0) by omega), if_pos (show 1 + (r2.length : Int) = (1 + (r2.length : Int), z).1 from rfl), toGaps_eq n d (by omega) (by omega), Option.bind_some]
    show (impl_GapsClose.f (K + 1) n d).bind _ = _
    rw [e2', Option.bind_some]
    show (laws_eqGaps.f (K + 1) r1 r2 r1 r2).bind _ = _
    rw [eqGaps_refl r1 r2 (by omega) (by omega), Option.bind_some, if_pos rfl]
    show laws_FnExactGapsClose.j2 (K + 1) (1 + (r2.length : Int)) (r3 != r3) r1 z = _
    obtain ⟨z', m4, m5⟩ := mark_held (k := K) r1 r1 r2 (by omega) (by omega) 1 (by omega) (by omega)
    have same : z' = z := by
      have h1 : laws_markGaps.f (K + 1) r1 r2 1 = some (1 + (r2.length : Int), z') := laws_markGaps.mono r1 r2 1 K _ m4
      rw [m2] at h1
      have h2 := Option.some.inj h1
      exact ((Prod.mk.inj h2).2).symm
    rw [same] at m5
    rw [ne, laws_FnExactGapsClose.j2, if_neg (show ¬ (false = true) by decide), m5, Option.bind_some, if_neg (show ¬ (1 + (r2.length : Int) < 0) by omega), if_pos rfl]
  · rw [if_neg cL, if_pos (by omega)]
end Go.Proofs.Ytmdcgkkkfncieaa.Pure
