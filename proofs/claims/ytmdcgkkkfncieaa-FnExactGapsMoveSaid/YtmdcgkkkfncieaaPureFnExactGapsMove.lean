/- The program's GapsMove and the reference's tell the same at every argument, and the answer is a row of its own. Conditions: those in each law. -/
import Derived.Test.YtmdcgkkkfncieaaLFnExactGapsMove
import Derived.Test.YtmdcgkkkfncieaaQFnExactGapsMovex7
namespace Go.Proofs.Ytmdcgkkkfncieaa.Pure
set_option linter.unusedVariables false
set_option linter.unusedSimpArgs false
open Go.RowKit Go.Proofs.Ytmdcgkkkfncieaa.PFnExactGapsMove Go.Proofs.Ytmdcgkkkfncieaa.LFnExactGapsMove Go.Proofs.Ytmdcgkkkfncieaa.Base Go.Proofs.YtmdcgkkkfncieaaW.PrintWords Go.Proofs.YtmdcgkkkfncieaaW.PrintLast Go.Proofs.YtmdcgkkkfncieaaW.PrintMore

theorem both {k : Nat} (n : Int) (d : List Int) (v w c : Int) (hk : 4000000 ≤ k) : ∃ r, spec_GapsMove.f k n d v w c = some r ∧ impl_GapsMove.f k n d v w c = some r ∧ r.2.length ≤ 169 := by
  obtain ⟨k, rfl⟩ : ∃ j, k = j + 1 := ⟨k - 1, by omega⟩
  have sno : spec_GapsMove.j0 (k + 1) v w c true n d = some (0, []) := by rw [spec_GapsMove.j0]; rfl
  have ino : impl_GapsMove.j0 (k + 1) v w c true n d = some (0, []) := by rw [impl_GapsMove.j0]; rfl
  unfold spec_GapsMove.f impl_GapsMove.f
  by_cases g : GOk n d
  · have g' := g
    obtain ⟨h0, h, hl, _, _⟩ := g'
    have sm := len_small h0 h hl
    rw [sGapsOk_yes g (by omega), gapsOk_yes g (by omega)]
    rw [Option.bind_some, Option.bind_some, if_pos rfl, if_pos rfl, sin_eq, Option.bind_some]
    by_cases ci : 1 ≤ v ∧ v ≤ n
    · rw [decide_eq_true ci, if_pos rfl, if_neg (show ¬ v < 1 by omega), if_neg (show ¬ v > n by omega), sin_eq, Option.bind_some]
      by_cases cj : 0 ≤ w ∧ w ≤ n
      · rw [decide_eq_true cj, if_pos rfl, if_neg (show ¬ w < 0 by omega), if_neg (show ¬ w > n by omega), sl11C_eq, Option.bind_some]
        by_cases cc : -4294967296 ≤ c ∧ c ≤ 4294967296
        · rw [decide_eq_true cc, if_neg (show ¬ c < -4294967296 by omega), decide_eq_false (show ¬ c > 4294967296 by omega), spec_GapsMove.j0, impl_GapsMove.j0]
          rw [if_neg (show ¬ ((!true) = true) by decide), if_neg (show ¬ (false = true) by decide)]
          by_cases e : v = w
          · rw [if_pos e, if_pos e, sl11Copy_eq n d (by omega) (by omega), clone_eq n d (by omega), Option.bind_some, Option.bind_some, wrap64_id (x := n + 1) (by omega) (by omega)]
            obtain ⟨r, e1, e2, e3⟩ := move_loop v c g (by omega) ci.2 cc.1 cc.2 _ k 0 d rfl (by omega) (by omega) (by omega) hl
            exact ⟨(n, r), e1, e2, by show r.length ≤ 169; omega⟩
          · obtain ⟨⟨r1, r2⟩, e1, e2, e3, e4⟩ := forget_both (k := k) n d v (by omega)
            obtain ⟨f1, f2⟩ := e4 g ci.1 ci.2
            have f1 : r1 = n := f1
            have f2 : r2.length = d.length := f2
            subst f1
            have ix := idx_in h0 h (show 0 ≤ v by omega) ci.2 cj.1 cj.2
            have iy := idx_in h0 h cj.1 cj.2 (show 0 ≤ v by omega) ci.2
            rw [if_neg e, if_neg e, e1, e2, Option.bind_some, Option.bind_some]
            refine ⟨(r1, gput r1 (gput r1 r2 v w c) w v (wrap64 (-c))), ?_, ?_, by show (gput _ _ _ _ _).length ≤ 169; rw [gput_len, gput_len]; omega⟩
            · show (spec_l11Put.f r1 r2 v w c).bind _ = _
              rw [sl11Put_eq c h0 h (by omega) (by omega) ci.2 cj.1 cj.2, Option.bind_some]
              show (spec_l11Put.f r1 _ w v (wrap64 (-c))).bind _ = _
              rw [sl11Put_eq _ h0 h (by rw [gput_len]; omega) cj.1 cj.2 (by omega) ci.2, Option.bind_some]
            · rw [gapsAt_eq h0 h (by omega) ci.2 cj.1 cj.2, gapsAt_eq h0 h cj.1 cj.2 (by omega) ci.2]
              rw [Option.bind_some, if_pos (show 0 ≤ v * (r1 + 1) + w by omega), if_pos (show v * (r1 + 1) + w < (r2.length : Int) by omega), Option.bind_some, if_pos (show 0 ≤ w * (r1 + 1) + v by omega), if_pos (show w * (r1 + 1) + v < (r2.length : Int) by omega)]
              rfl
        · rw [decide_eq_false cc]
          refine ⟨(0, []), sno, ?_, by simp⟩
          by_cases c1 : c < -4294967296
          · rw [if_pos c1]; exact ino
          · rw [if_neg c1, decide_eq_true (show c > 4294967296 by omega)]; exact ino
      · rw [decide_eq_false cj]
        refine ⟨(0, []), sno, ?_, by simp⟩
        by_cases c1 : w < 0
        · rw [if_pos c1]; exact ino
        · rw [if_neg c1, if_pos (show w > n by omega)]; exact ino
    · rw [decide_eq_false ci]
      refine ⟨(0, []), sno, ?_, by simp⟩
      by_cases c1 : v < 1
      · rw [if_pos c1]; exact ino
      · rw [if_neg c1, if_pos (show v > n by omega)]; exact ino
  · rw [sGapsOk_no g (by omega), gapsOk_no g (by omega)]
    exact ⟨(0, []), sno, ino, by simp⟩

theorem FnExactGapsMove (n : Int) (d : List Int) (v : Int) (w : Int) (c : Int) (hl : d.length * 8 ≤ 140737488351232) : ∃ k, laws_FnExactGapsMove.f k n d v w c = some true := by
  obtain ⟨K, hK⟩ : ∃ K : Nat, 300000000000000000000 ≤ K := ⟨_, Nat.le_refl _⟩
  refine ⟨K + 1, ?_⟩
  unfold laws_FnExactGapsMove.f
  rw [szGaps_eq n d 1048576 (by omega) (by omega) (by omega)]
  show (if (if (d.length : Int) ≤ 1048576 then 1048576 - (d.length : Int) else -1) < 0 then _ else _) = _
  by_cases cL : (d.length : Int) ≤ 1048576
  · rw [if_pos cL, if_neg (by omega)]
    rw [toGaps_eq n d (by omega) (by omega)]
    obtain ⟨⟨r1, r2⟩, e1, e2, e3⟩ := both (k := K + 1) n d v w c (by omega)
    have e3 : r2.length ≤ 169 := e3
    obtain ⟨e2', e2''⟩ : impl_GapsMove.f (K + 1) n d v w c = some (r1, r2) ∧ impl_GapsMove.f K n d v w c = some (r1, r2) := by
      refine ⟨e2, ?_⟩
      obtain ⟨⟨q1, q2⟩, g1, g2, g3⟩ := both (k := K) n d v w c (by omega)
      have := impl_GapsMove.mono n d v w c K _ g2
      rw [this] at e2
      rw [g2, e2]
    show (spec_GapsMove.f (K + 1) n d v w c).bind _ = _
    rw [e1]
    show (impl_GapsMove.f (K + 1) n d v w c).bind _ = _
    rw [e2]
    show (laws_eqGaps.f (K + 1) r1 r2 r1 r2).bind _ = _
    rw [eqGaps_refl r1 r2 (by omega) (by omega)]
    show (laws_eqGaps.f (K + 1) n d n d).bind _ = _
    rw [eqGaps_refl n d (by omega) (by omega)]
    obtain ⟨y, m1, _⟩ := mark_held (k := K + 1) n n d (by omega) (by omega) 1 (by omega) (by omega)
    show (laws_markGaps.f (K + 1) n d 1).bind _ = _
    rw [m1, Option.bind_some, if_neg (show ¬ ((1 + (d.length : Int), y).1 < 0) by show ¬ (1 + (d.length : Int) < 0); omega)]
    show laws_FnExactGapsMove.j0 (K + 1) v w c false n d r1 r2 r1 r2 = _
    obtain ⟨z, m2, m3⟩ := mark_held (k := K) r1 r1 r2 (by omega) (by omega) 1 (by omega) (by omega)
    rw [laws_FnExactGapsMove.j0, if_neg (by simp), m2, Option.bind_some]
    rw [m3, Option.bind_some, if_neg (show ¬ (1 + (r2.length : Int) < 0) by omega), if_pos (show 1 + (r2.length : Int) = (1 + (r2.length : Int), z).1 from rfl), toGaps_eq n d (by omega) (by omega)]
    show (impl_GapsMove.f K n d v w c).bind _ = _
    rw [e2'']
    show (laws_eqGaps.f K r1 r2 r1 r2).bind _ = _
    rw [eqGaps_refl r1 r2 (by omega) (by omega)]
    rw [Option.bind_some, if_pos rfl, Option.bind_some, if_neg (show ¬ (1 + (r2.length : Int) < 0) by omega), if_pos (show 1 + (r2.length : Int) = (1 + (r2.length : Int), z).1 from rfl)]
  · rw [if_neg cL, if_pos (by omega)]
end Go.Proofs.Ytmdcgkkkfncieaa.Pure
