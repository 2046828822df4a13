/- The program's GapsRange and the reference's tell the same at every argument. Conditions: those in each law. -/
import Derived.Test.YtmdcgkkkfncieaaLFnExactGapsRange
namespace Go.Proofs.Ytmdcgkkkfncieaa.Pure
set_option linter.unusedVariables false
set_option linter.unusedSimpArgs false
open Go.RowKit Go.Proofs.Ytmdcgkkkfncieaa.PFnExactGapsRange Go.Proofs.Ytmdcgkkkfncieaa.LFnExactGapsRange Go.Proofs.Ytmdcgkkkfncieaa.Base Go.Proofs.YtmdcgkkkfncieaaW.PrintWords Go.Proofs.YtmdcgkkkfncieaaW.PrintLast Go.Proofs.YtmdcgkkkfncieaaW.PrintMore

theorem both {k : Nat} (n : Int) (d : List Int) (v : Int) (hk : 5000 ≤ k) : ∃ r, spec_GapsRange.f k n d v = some r ∧ impl_GapsRange.f k n d v = some r := by
  obtain ⟨k, rfl⟩ : ∃ j, k = j + 1 := ⟨k - 1, by omega⟩
  unfold spec_GapsRange.f impl_GapsRange.f
  by_cases g : GOk n d
  · rw [sGapsOk_yes g (by omega), gapsOk_yes g (by omega)]
    show ∃ r, (spec_l1In.f v 1 n).bind _ = _ ∧ _
    rw [sin_eq]
    by_cases c : 1 ≤ v ∧ v ≤ n
    · have g' := g
      obtain ⟨h0, h, hl, a, b⟩ := g'
      have i1 := idx_in h0 h (Int.le_refl 0) h0 (by omega : 0 ≤ v) c.2
      have i2 := idx_in h0 h (by omega : 0 ≤ v) c.2 (Int.le_refl 0) h0
      refine ⟨RFrom (wrap64 (-(gat n d 0 v))) (gat n d v 0), ?_, ?_⟩
      · show spec_GapsRange.j0 (k + 1) v (!decide (1 ≤ v ∧ v ≤ n)) n d = _
        rw [decide_eq_true c, spec_GapsRange.j0]
        rw [if_neg (by simp), sl11At_eq h0 h hl (Int.le_refl 0) h0 (by omega) c.2, sl11At_eq h0 h hl (by omega : 0 ≤ v) c.2 (Int.le_refl 0) h0]
        show (spec_l8Cut.f (wrap64 (-(gat n d 0 v))) (gat n d v 0)).bind _ = _
        rw [scut_eq]; rfl
      · show (if v < 1 then _ else _) = _
        rw [if_neg (by omega), decide_eq_false (by omega : ¬ v > n), impl_GapsRange.j0]
        rw [if_neg (by simp), gapsAt_eq h0 h (Int.le_refl 0) h0 (by omega) c.2, gapsAt_eq h0 h (by omega : 0 ≤ v) c.2 (Int.le_refl 0) h0]
        show (if 0 ≤ 0 * (n + 1) + v then _ else _) = _
        rw [if_pos (by omega), if_pos (by omega)]
        show (if 0 ≤ v * (n + 1) + 0 then _ else _) = _
        rw [if_pos (by omega), if_pos (by omega), rangeFrom_eq]; rfl
    · refine ⟨(1, 0), ?_, ?_⟩
      · show spec_GapsRange.j0 (k + 1) v (!decide (1 ≤ v ∧ v ≤ n)) n d = _
        rw [decide_eq_false c, spec_GapsRange.j0]
        rfl
      · show (if v < 1 then _ else _) = _
        by_cases c1 : v < 1
        · rw [if_pos c1, impl_GapsRange.j0]; rfl
        · rw [if_neg c1, decide_eq_true (by omega : v > n), impl_GapsRange.j0]; rfl
  · rw [sGapsOk_no g (by omega), gapsOk_no g (by omega)]
    refine ⟨(1, 0), ?_, ?_⟩
    · show spec_GapsRange.j0 (k + 1) v true n d = _
      rw [spec_GapsRange.j0]; rfl
    · show impl_GapsRange.j0 (k + 1) v true n d = _
      rw [impl_GapsRange.j0]; rfl

theorem FnExactGapsRange (n : Int) (d : List Int) (v : Int) (hl : d.length * 8 ≤ 140737488351232) : ∃ k, laws_FnExactGapsRange.f k n d v = some true := by
  obtain ⟨K, hK⟩ : ∃ K : Nat, 300000000000000000000 ≤ K := ⟨_, Nat.le_refl _⟩
  refine ⟨K, ?_⟩
  unfold laws_FnExactGapsRange.f
  rw [szGaps_eq n d 1048576 (by omega) (by omega) (by omega)]
  show (if (if (d.length : Int) ≤ 1048576 then 1048576 - (d.length : Int) else -1) < 0 then _ else _) = _
  by_cases c : (d.length : Int) ≤ 1048576
  · rw [if_pos c, if_neg (by omega)]
    rw [toGaps_eq n d (by omega) (by omega)]
    obtain ⟨⟨r1, r2⟩, e1, e2⟩ := both (k := K) n d v (by omega)
    show (spec_GapsRange.f K n d v).bind _ = _
    rw [e1]
    show (impl_GapsRange.f K n d v).bind _ = _
    rw [e2]
    show (laws_eqRange.f r1 r2 r1 r2).bind _ = _
    rw [eqRange_refl]
    show (laws_eqGaps.f K n d n d).bind _ = _
    rw [eqGaps_refl n d (by omega) (by omega)]
    rfl
  · rw [if_neg c, if_pos (by omega)]
end Go.Proofs.Ytmdcgkkkfncieaa.Pure
