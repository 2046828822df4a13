/- For every code the law FnRangeDo answers true: what NumDo makes of numbers of two ranges is a number of the range that RangeDo tells, or its fault is told. Conditions: none beyond those of the given statement. -/
import Derived.Test.YtlbheepfmjbpnaaLFnRangeDo
namespace Go.Proofs.Ytlbheepfmjbpnaa.Pure
set_option linter.unusedVariables false
set_option linter.unusedSimpArgs false
open Go.RowKit Go.Proofs.Ytlbheepfmjbpnaa.PFnRangeDo Go.Proofs.Ytlbheepfmjbpnaa.LFnRangeDo Go.Proofs.Ytlbheepfmjbpnaa.Base Go.Proofs.YtlbheepfmjbpnaaW.PrintWords Go.Proofs.YtlbheepfmjbpnaaW.PrintLast Go.Proofs.YtlbheepfmjbpnaaW.PrintMore

theorem rangeDo_l0 {code : List Int} (hc : Bytes code) {op al ah bl bh : Int} (g : RGood op al ah bl bh) : ∀ (d k : Nat) (i : Int), 0 ≤ i → (8 - i : Int) = d → d + 100 ≤ k →
    Tot (laws_FnRangeDo.l0 k code op (RFaults op al ah bl bh) i al ah bl bh (RDo op al ah bl bh).1 (RDo op al ah bl bh).2) fun r => r = true := by
  intro d
  induction d with
  | zero =>
    intro k i h0 hd hk
    obtain ⟨k, rfl⟩ : ∃ m, k = m + 1 := ⟨k - 1, by omega⟩
    simp only [laws_FnRangeDo.l0]
    rw [if_neg (by omega), rangeOk_eq]
    exact Tot.here (by simp only [RDo_ok, decide_true])
  | succ d ih =>
    intro k i h0 hd hk
    obtain ⟨k, rfl⟩ : ∃ m, k = m + 1 := ⟨k - 1, by omega⟩
    have nx := ih k (i + 1) (by omega) (by omega) (by omega)
    simp only [laws_FnRangeDo.l0]
    rw [if_pos (by omega), wrap64_id (x := i + 1) (by omega) (by omega), wrap64_id (x := i + 11) (by omega) (by omega)]
    refine Tot.then (within_tot k (by omega) hc al ah h0 (by omega)) fun u hu => Tot.then (within_tot k (by omega) hc bl bh (by omega) (by omega)) fun v hv => ?_
    have U : RHas al ah u := ⟨g.2.1, hu.2.2 g.2.1 g.2.2.2.1⟩
    have V : RHas bl bh v := ⟨g.2.2.1, hv.2.2 g.2.2.1 g.2.2.2.2⟩
    have H := RDo_has g.1.1 g.1.2 U V
    rw [numDo_eq k (by omega)]
    simp only [Option.bind_some]
    refine Tot.ite (fun c => ?_) fun c => ?_
    · rw [rangeHas_eq]
      simp only [Option.bind_some, decide_eq_true_eq]
      rw [if_pos (H.1 c)]
      exact nx
    · have := RFaults_len op al ah bl bh
      rw [has_eq k _ _ (by omega) (by omega)]
      simp only [Option.bind_some, decide_eq_true_eq]
      rw [if_pos (H.2 c)]
      exact nx

theorem FnRangeDo : laws_FnRangeDo.Pure := by
  intro l _ _ hw
  have hl := Bytes.of hw
  obtain ⟨K, hK⟩ : ∃ K : Nat, 3000000 ≤ K := ⟨_, Nat.le_refl _⟩
  refine ⟨K + 3, ?_⟩
  refine Tot.out ?_
  unfold laws_FnRangeDo.f
  refine Tot.ite (fun _ => Tot.here rfl) fun _ => ?_
  refine Tot.then (drawRangeDo_tot _ (by omega) hl) ?_
  rintro ⟨op, al, ah, bl, bh⟩ -
  dsimp only
  have L := RFaults_len op al ah bl bh
  rw [rangeDo_eq _ (by omega), srangeDo_eq _ (by omega)]
  simp only [Option.bind_some, beq_self_eq_true, Bool.not_true, Bool.or_self, Bool.false_eq_true, if_false]
  rw [sameInts_refl _ (by omega) (by omega)]
  simp only [Option.bind_some, Bool.not_true, laws_FnRangeDo.j0, Bool.false_eq_true, if_false, srangeOk_eq, decide_eq_true_eq]
  have bad : (¬ (1 ≤ op ∧ op ≤ 13) ∨ ¬ ROk al ah ∨ ¬ ROk bl bh ∨ al > ah ∨ bl > bh) → Tot (laws_FnRangeDo.j1 (K + 2) l op (RFaults op al ah bl bh) true al ah bl bh (RDo op al ah bl bh).1 (RDo op al ah bl bh).2) fun r => r = true := fun h => by
    rw [RDo_bad h, RFaults_bad h]
    simp only [laws_FnRangeDo.j1, if_true]
    exact Tot.here (by simp)
  refine Tot.ite (fun o => ?_) fun o => bad (Or.inr (Or.inl o))
  refine Tot.ite (fun o' => ?_) fun o' => bad (Or.inr (Or.inr (Or.inl o')))
  refine Tot.ite (fun e => bad (Or.inr (Or.inr (Or.inr (Or.inl e))))) fun e => ?_
  refine Tot.ite (fun e' => bad (Or.inr (Or.inr (Or.inr (Or.inr e'))))) fun e' => ?_
  refine Tot.ite (fun x => bad (Or.inl (by omega))) fun x => ?_
  by_cases y : op > 13
  · simp only [y, decide_true]; exact bad (Or.inl (by omega))
  · simp only [y, decide_false, laws_FnRangeDo.j1, Bool.false_eq_true, if_false]
    exact rangeDo_l0 hl ⟨by omega, o, o', e, e'⟩ 8 _ 0 (by omega) (by omega) (by omega)
end Go.Proofs.Ytlbheepfmjbpnaa.Pure
