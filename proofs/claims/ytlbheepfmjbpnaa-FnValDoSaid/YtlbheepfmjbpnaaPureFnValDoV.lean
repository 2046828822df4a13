/- For every code the law FnValDo answers true: what NumDo makes of numbers of two vals is a number of the val that ValDo tells, or its fault is told. Conditions: none beyond those of the given statement. -/
import Derived.Test.YtlbheepfmjbpnaaLFnValDoV
namespace Go.Proofs.Ytlbheepfmjbpnaa.Pure
set_option linter.unusedVariables false
set_option linter.unusedSimpArgs false
open Go.RowKit Go.Proofs.Ytlbheepfmjbpnaa.PFnValDo Go.Proofs.Ytlbheepfmjbpnaa.LFnValDo Go.Proofs.Ytlbheepfmjbpnaa.Base Go.Proofs.YtlbheepfmjbpnaaW.PrintWords Go.Proofs.YtlbheepfmjbpnaaW.PrintLast Go.Proofs.YtlbheepfmjbpnaaW.PrintMore

theorem valDo_l0 {code : List Int} (hc : Bytes code) (op a b m n a' b' m' n' : Int) : ∀ (d k : Nat) (i : Int), 0 ≤ i → (8 - i : Int) = d → d + 100 ≤ k →
    Tot (laws_FnValDo.l0 k code op (VFaults op a b m n a' b' m' n') i a b m n a' b' m' n' (VDo op a b m n a' b' m' n').1 (VDo op a b m n a' b' m' n').2.1 (VDo op a b m n a' b' m' n').2.2.1 (VDo op a b m n a' b' m' n').2.2.2) fun r => r = true := by
  intro d
  induction d with
  | zero =>
    intro k i h0 hd hk
    obtain ⟨k, rfl⟩ : ∃ q, k = q + 1 := ⟨k - 1, by omega⟩
    simp only [laws_FnValDo.l0]
    rw [if_neg (by omega)]
    exact Tot.here rfl
  | succ d ih =>
    intro k i h0 hd hk
    obtain ⟨k, rfl⟩ : ∃ q, k = q + 1 := ⟨k - 1, by omega⟩
    have nx := ih k (i + 1) (by omega) (by omega) (by omega)
    simp only [laws_FnValDo.l0]
    rw [if_pos (by omega), wrap64_id (x := i + 1) (by omega) (by omega), wrap64_id (x := i + 13) (by omega) (by omega)]
    refine Tot.then (ofVal_tot k (by omega) hc a b m n h0 (by omega)) fun u _ => ?_
    refine Tot.then (ofVal_tot k (by omega) hc a' b' m' n' (by omega) (by omega)) fun v _ => ?_
    rw [snumDo_eq k (by omega), Option.bind_some]
    refine Tot.ite (fun h1 => ?_) (fun _ => nx)
    refine Tot.ite (fun h2 => ?_) (fun _ => nx)
    refine Tot.then (svalHas_tot (by omega) a b m n u) fun t ht => ?_
    refine Tot.ite (fun x => ?_) (fun _ => nx)
    refine Tot.then (svalHas_tot (by omega) a' b' m' n' v) fun t' ht' => ?_
    refine Tot.ite (fun x' => ?_) (fun _ => nx)
    have H := VDo_has h1 h2 (ht.mp x) (ht'.mp x')
    refine Tot.ite (fun e => ?_) (fun e => ?_)
    · rw [valHas_eq k (by omega), Option.bind_some, decide_eq_true (H.1 e), if_pos rfl]
      exact nx
    · have := VFaults_len op a b m n a' b' m' n'
      rw [has_eq k _ _ (by omega) (by omega), Option.bind_some, decide_eq_true (H.2 e), if_pos rfl]
      exact nx

theorem FnValDo : laws_FnValDo.Pure := by
  intro l _ _ hw
  have hl := Bytes.of hw
  obtain ⟨K, hK⟩ : ∃ K : Nat, 400000000000000000000 ≤ K := ⟨_, Nat.le_refl _⟩
  refine ⟨K + 3, ?_⟩
  refine Tot.out ?_
  unfold laws_FnValDo.f
  refine Tot.ite (fun _ => Tot.here rfl) fun _ => ?_
  refine Tot.then (drawValDo_tot _ (by omega) hl) ?_
  rintro ⟨op, a, b, m, n, a', b', m', n'⟩ -
  dsimp only
  have L := VFaults_len op a b m n a' b' m' n'
  rw [valDo_eq _ (by omega), svalDo_eq _ (by omega)]
  simp only [Option.bind_some, beq_self_eq_true, Bool.not_true, Bool.or_self, Bool.false_eq_true, if_false]
  rw [sameInts_refl _ (by omega) (by omega)]
  simp only [Option.bind_some, if_true]
  rw [valOk_eq _ (by omega)]
  simp only [Option.bind_some, VDo_ok, decide_true, Bool.not_true, laws_FnValDo.j0, Bool.false_eq_true, if_false]
  exact valDo_l0 hl op a b m n a' b' m' n' 8 _ 0 (by omega) (by omega) (by omega)
end Go.Proofs.Ytlbheepfmjbpnaa.Pure
