/- The program's GapsForget and the reference's tell the same at every argument, and the answer is a row of its own. Conditions: those in each law. -/
import Derived.Test.YtmdcgkkkfncieaaLFnExactGapsForget
import Derived.Test.YtmdcgkkkfncieaaQFnExactGapsForgetx5
namespace Go.Proofs.Ytmdcgkkkfncieaa.Pure
set_option linter.unusedVariables false
set_option linter.unusedSimpArgs false
open Go.RowKit Go.Proofs.Ytmdcgkkkfncieaa.PFnExactGapsForget Go.Proofs.Ytmdcgkkkfncieaa.LFnExactGapsForget Go.Proofs.Ytmdcgkkkfncieaa.Base Go.Proofs.YtmdcgkkkfncieaaW.PrintWords Go.Proofs.YtmdcgkkkfncieaaW.PrintLast Go.Proofs.YtmdcgkkkfncieaaW.PrintMore

theorem both {k : Nat} (n : Int) (d : List Int) (v : Int) (hk : 3000000 ≤ k) : ∃ r, spec_GapsForget.f k n d v = some r ∧ impl_GapsForget.f k n d v = some r ∧ r.2.length ≤ 169 := by
  obtain ⟨r, a, b, c, _⟩ := forget_both (k := k) n d v hk
  exact ⟨r, a, b, c⟩

theorem FnExactGapsForget (n : Int) (d : List Int) (v : Int) (hl : d.length * 8 ≤ 140737488351232) : ∃ k, laws_FnExactGapsForget.f k n d v = some true := by
  obtain ⟨K, hK⟩ : ∃ K : Nat, 300000000000000000000 ≤ K := ⟨_, Nat.le_refl _⟩
  refine ⟨K + 1, ?_⟩
  unfold laws_FnExactGapsForget.f
  rw [szGaps_eq n d 1048576 (by omega) (by omega) (by omega)]
  show (if (if (d.length : Int) ≤ 1048576 then 1048576 - (d.length : Int) else -1) < 0 then _ else _) = _
  by_cases cL : (d.length : Int) ≤ 1048576
  · rw [if_pos cL, if_neg (by omega)]
    rw [toGaps_eq n d (by omega) (by omega)]
    obtain ⟨⟨r1, r2⟩, e1, e2, e3⟩ := both (k := K + 1) n d v (by omega)
    have e3 : r2.length ≤ 169 := e3
    obtain ⟨e2', e2''⟩ : impl_GapsForget.f (K + 1) n d v = some (r1, r2) ∧ impl_GapsForget.f K n d v = some (r1, r2) := by
      refine ⟨e2, ?_⟩
      obtain ⟨⟨q1, q2⟩, g1, g2, g3⟩ := both (k := K) n d v (by omega)
      have := impl_GapsForget.mono n d v K _ g2
      rw [this] at e2
      rw [g2, e2]
    show (spec_GapsForget.f (K + 1) n d v).bind _ = _
    rw [e1]
    show (impl_GapsForget.f (K + 1) n d v).bind _ = _
    rw [e2]
    show (laws_eqGaps.f (K + 1) r1 r2 r1 r2).bind _ = _
    rw [eqGaps_refl r1 r2 (by omega) (by omega)]
    show (laws_eqGaps.f (K + 1) n d n d).bind _ = _
    rw [eqGaps_refl n d (by omega) (by omega)]
    obtain ⟨y, m1, _⟩ := mark_held (k := K + 1) n n d (by omega) (by omega) 1 (by omega) (by omega)
    show (laws_markGaps.f (K + 1) n d 1).bind _ = _
    rw [m1, Option.bind_some, if_neg (show ¬ ((1 + (d.length : Int), y).1 < 0) by show ¬ (1 + (d.length : Int) < 0); omega)]
    show laws_FnExactGapsForget.j0 (K + 1) v false n d r1 r2 r1 r2 = _
    obtain ⟨z, m2, m3⟩ := mark_held (k := K) r1 r1 r2 (by omega) (by omega) 1 (by omega) (by omega)
    rw [laws_FnExactGapsForget.j0, if_neg (by simp), m2, Option.bind_some]
    rw [m3, Option.bind_some, if_neg (show ¬ (1 + (r2.length : Int) < 0) by omega), if_pos (show 1 + (r2.length : Int) = (1 + (r2.length : Int), z).1 from rfl), toGaps_eq n d (by omega) (by omega)]
    show (impl_GapsForget.f K n d v).bind _ = _
    rw [e2'']
    show (laws_eqGaps.f K r1 r2 r1 r2).bind _ = _
    rw [eqGaps_refl r1 r2 (by omega) (by omega)]
    rw [Option.bind_some, if_pos rfl, Option.bind_some, if_neg (show ¬ (1 + (r2.length : Int) < 0) by omega), if_pos (show 1 + (r2.length : Int) = (1 + (r2.length : Int), z).1 from rfl)]
  · rw [if_neg cL, if_pos (by omega)]
end Go.Proofs.Ytmdcgkkkfncieaa.Pure
