/- The program's GapsCut and the reference's tell the same at every argument, and the answer is a row of its own. Conditions: those in each law. -/
import Derived.Test.YtmdcgkkkfncieaaLFnExactGapsCut
import Derived.Test.YtmdcgkkkfncieaaQFnExactGapsCutx5
namespace Go.Proofs.Ytmdcgkkkfncieaa.Pure
set_option linter.unusedVariables false
set_option linter.unusedSimpArgs false
open Go.RowKit Go.Proofs.Ytmdcgkkkfncieaa.PFnExactGapsCut Go.Proofs.Ytmdcgkkkfncieaa.LFnExactGapsCut Go.Proofs.Ytmdcgkkkfncieaa.Base Go.Proofs.YtmdcgkkkfncieaaW.PrintWords Go.Proofs.YtmdcgkkkfncieaaW.PrintLast Go.Proofs.YtmdcgkkkfncieaaW.PrintMore

theorem both {k : Nat} (n : Int) (d : List Int) (i j c : Int) (hk : 3000000 ≤ k) : ∃ r, spec_GapsCut.f k n d i j c = some r ∧ impl_GapsCut.f k n d i j c = some r ∧ r.2.length ≤ 169 := by
  obtain ⟨k, rfl⟩ : ∃ j, k = j + 1 := ⟨k - 1, by omega⟩
  have sno : spec_GapsCut.j0 (k + 1) i j c true n d = some (0, []) := by rw [spec_GapsCut.j0]; rfl
  have ino : impl_GapsCut.j0 (k + 1) i j c true n d = some (0, []) := by rw [impl_GapsCut.j0]; rfl
  unfold spec_GapsCut.f impl_GapsCut.f
  by_cases g : GOk n d
  · have g' := g
    obtain ⟨h0, h, hl, _, _⟩ := g'
    have sm := len_small h0 h hl
    rw [sGapsOk_yes g (by omega), gapsOk_yes g (by omega)]
    show ∃ r, (spec_l1In.f i 0 n).bind _ = _ ∧ (if i < 0 then _ else _) = _ ∧ _
    rw [sin_eq]
    show ∃ r, (if decide (0 ≤ i ∧ i ≤ n) = true then _ else _) = _ ∧ _
    by_cases ci : 0 ≤ i ∧ i ≤ n
    · rw [decide_eq_true ci, if_pos rfl, if_neg (show ¬ i < 0 by omega), if_neg (show ¬ i > n by omega), sin_eq]
      show ∃ r, (if decide (0 ≤ j ∧ j ≤ n) = true then _ else _) = _ ∧ _
      by_cases cj : 0 ≤ j ∧ j ≤ n
      · rw [decide_eq_true cj, if_pos rfl, if_neg (show ¬ j < 0 by omega), if_neg (show ¬ j > n by omega)]
        by_cases e : i = j
        · rw [if_pos e, if_pos e]
          exact ⟨_, sno, ino, by simp⟩
        · rw [if_neg e, if_neg e, sl11C_eq]
          show ∃ r, spec_GapsCut.j0 (k + 1) i j c (!decide (-4294967296 ≤ c ∧ c ≤ 4294967296)) n d = _ ∧ _
          by_cases cc : -4294967296 ≤ c ∧ c ≤ 4294967296
          · have ix := idx_in h0 h ci.1 ci.2 cj.1 cj.2
            rw [decide_eq_true cc, if_neg (show ¬ c < -4294967296 by omega), decide_eq_false (show ¬ c > 4294967296 by omega), spec_GapsCut.j0, impl_GapsCut.j0]
            rw [if_neg (by simp), if_neg (by simp), sl11Copy_eq n d (by omega) (by omega), clone_eq n d (by omega), sl11At_eq h0 h hl ci.1 ci.2 cj.1 cj.2, gapsAt_eq h0 h ci.1 ci.2 cj.1 cj.2]
            refine ⟨(n, d.set (i * (n + 1) + j).toNat (mn (gat n d i j) c)), ?_, ?_, by simpa using sm⟩
            · show (if c < gat n d i j then _ else _) = _
              unfold mn
              by_cases q : c < gat n d i j
              · rw [if_pos q, if_pos q]
                show (spec_l11Put.f n d i j c).bind _ = _
                rw [sl11Put_eq c h0 h hl ci.1 ci.2 cj.1 cj.2]; rfl
              · rw [if_neg q, if_neg q]
                have e2 : (((i * (n + 1) + j).toNat : Nat) : Int) = i * (n + 1) + j := by omega
                have := set_rd d (i * (n + 1) + j).toNat (by omega)
                rw [e2] at this
                unfold gat
                rw [this]
            · show (if 0 ≤ i * (n + 1) + j then _ else _) = _
              rw [if_pos (show 0 ≤ i * (n + 1) + j by omega), if_pos (show i * (n + 1) + j < (d.length : Int) by omega), if_pos (show 0 ≤ i * (n + 1) + j by omega), if_pos (show i * (n + 1) + j < (d.length : Int) by omega)]
              rfl
          · rw [decide_eq_false cc]
            refine ⟨(0, []), sno, ?_, by simp⟩
            by_cases c1 : c < -4294967296
            · rw [if_pos c1]; exact ino
            · rw [if_neg c1, decide_eq_true (show c > 4294967296 by omega)]; exact ino
      · rw [decide_eq_false cj]
        refine ⟨(0, []), sno, ?_, by simp⟩
        by_cases c1 : j < 0
        · rw [if_pos c1]; exact ino
        · rw [if_neg c1, if_pos (show j > n by omega)]; exact ino
    · rw [decide_eq_false ci]
      refine ⟨(0, []), sno, ?_, by simp⟩
      by_cases c1 : i < 0
      · rw [if_pos c1]; exact ino
      · rw [if_neg c1, if_pos (show i > n by omega)]; exact ino
  · rw [sGapsOk_no g (by omega), gapsOk_no g (by omega)]
    exact ⟨(0, []), sno, ino, by simp⟩

theorem FnExactGapsCut (n : Int) (d : List Int) (i : Int) (j : Int) (c : Int) (hl : d.length * 8 ≤ 140737488351232) : ∃ k, laws_FnExactGapsCut.f k n d i j c = some true := by
  obtain ⟨K, hK⟩ : ∃ K : Nat, 300000000000000000000 ≤ K := ⟨_, Nat.le_refl _⟩
  refine ⟨K + 1, ?_⟩
  unfold laws_FnExactGapsCut.f
  rw [szGaps_eq n d 1048576 (by omega) (by omega) (by omega)]
  show (if (if (d.length : Int) ≤ 1048576 then 1048576 - (d.length : Int) else -1) < 0 then _ else _) = _
  by_cases cL : (d.length : Int) ≤ 1048576
  · rw [if_pos cL, if_neg (by omega)]
    rw [toGaps_eq n d (by omega) (by omega)]
    obtain ⟨⟨r1, r2⟩, e1, e2, e3⟩ := both (k := K + 1) n d i j c (by omega)
    have e3 : r2.length ≤ 169 := e3
    obtain ⟨e2', e2''⟩ : impl_GapsCut.f (K + 1) n d i j c = some (r1, r2) ∧ impl_GapsCut.f K n d i j c = some (r1, r2) := by
      refine ⟨e2, ?_⟩
      obtain ⟨⟨q1, q2⟩, g1, g2, g3⟩ := both (k := K) n d i j c (by omega)
      have := impl_GapsCut.mono n d i j c K _ g2
      rw [this] at e2
      rw [g2, e2]
    show (spec_GapsCut.f (K + 1) n d i j c).bind _ = _
    rw [e1]
    show (impl_GapsCut.f (K + 1) n d i j c).bind _ = _
    rw [e2]
    show (laws_eqGaps.f (K + 1) r1 r2 r1 r2).bind _ = _
    rw [eqGaps_refl r1 r2 (by omega) (by omega)]
    show (laws_eqGaps.f (K + 1) n d n d).bind _ = _
    rw [eqGaps_refl n d (by omega) (by omega)]
    obtain ⟨y, m1, _⟩ := mark_held (k := K + 1) n n d (by omega) (by omega) 1 (by omega) (by omega)
    show (laws_markGaps.f (K + 1) n d 1).bind _ = _
    rw [m1, Option.bind_some, if_neg (show ¬ ((1 + (d.length : Int), y).1 < 0) by show ¬ (1 + (d.length : Int) < 0); omega)]
    show laws_FnExactGapsCut.j0 (K + 1) i j c false n d r1 r2 r1 r2 = _
    obtain ⟨z, m2, m3⟩ := mark_held (k := K) r1 r1 r2 (by omega) (by omega) 1 (by omega) (by omega)
    rw [laws_FnExactGapsCut.j0, if_neg (by simp), m2, Option.bind_some]
    rw [m3, Option.bind_some, if_neg (show ¬ (1 + (r2.length : Int) < 0) by omega), if_pos (show 1 + (r2.length : Int) = (1 + (r2.length : Int), z).1 from rfl), toGaps_eq n d (by omega) (by omega)]
    show (impl_GapsCut.f K n d i j c).bind _ = _
    rw [e2'']
    show (laws_eqGaps.f K r1 r2 r1 r2).bind _ = _
    rw [eqGaps_refl r1 r2 (by omega) (by omega)]
    rw [Option.bind_some, if_pos rfl, Option.bind_some, if_neg (show ¬ (1 + (r2.length : Int) < 0) by omega), if_pos (show 1 + (r2.length : Int) = (1 + (r2.length : Int), z).1 from rfl)]
  · rw [if_neg cL, if_pos (by omega)]
end Go.Proofs.Ytmdcgkkkfncieaa.Pure
