/- For every code the law FnNumRest answers true: quotient and rest of two numbers of 32 bits make the whole again, and a shift up and down again is nothing. Conditions: none beyond those of the given statement. -/
import Derived.Test.YtmdcgkkkfncieaaLFnNumRest
namespace Go.Proofs.Ytmdcgkkkfncieaa.Pure
set_option linter.unusedVariables false
set_option linter.unusedSimpArgs false
open Go.RowKit Go.Proofs.Ytmdcgkkkfncieaa.PFnNumRest Go.Proofs.Ytmdcgkkkfncieaa.LFnNumRest Go.Proofs.Ytmdcgkkkfncieaa.Base Go.Proofs.YtmdcgkkkfncieaaW.PrintWords Go.Proofs.YtmdcgkkkfncieaaW.PrintLast Go.Proofs.YtmdcgkkkfncieaaW.PrintMore

theorem rest_small {a b : Int} (hb : NOk b) (hz : b ≠ 0) : Int.tmod a b * Int.tmod a b < b * b ∧ -2147483648 ≤ Int.tmod a b ∧ Int.tmod a b ≤ 2147483648 := by
  have h2 : (Int.tmod a b).natAbs < b.natAbs := by
    rw [Int.natAbs_tmod]; exact Nat.mod_lt _ (by omega)
  have h3 : ((Int.tmod a b).natAbs * (Int.tmod a b).natAbs) < b.natAbs * b.natAbs := Nat.mul_lt_mul'' h2 h2
  have h4 := Int.natAbs_mul_self (a := Int.tmod a b)
  have h5 := Int.natAbs_mul_self (a := b)
  unfold NOk at hb
  refine ⟨?_, by omega, by omega⟩
  rw [← h4, ← h5]
  exact_mod_cast h3
theorem rest_sign (a b : Int) : 0 ≤ Int.tmod a b * a := by
  by_cases h : 0 ≤ a
  · exact Int.mul_nonneg (Int.tmod_nonneg b h) h
  · have h1 : 0 ≤ Int.tmod (-a) b := Int.tmod_nonneg b (by omega)
    rw [Int.neg_tmod] at h1
    have h2 : 0 ≤ -(Int.tmod a b) * (-a) := Int.mul_nonneg h1 (by omega)
    rw [Int.neg_mul_neg] at h2
    exact h2

theorem FnNumRest : laws_FnNumRest.Pure := by
  intro l _ _ hw
  have hl := Bytes.of hw
  refine ⟨100, ?_⟩
  refine Tot.out ?_
  unfold laws_FnNumRest.f
  refine Tot.ite (fun _ => Tot.here rfl) fun _ => ?_
  refine Tot.then (drawNumDo_tot 100 (by omega) hl) ?_
  rintro ⟨op, a, b⟩ -
  dsimp only
  rw [numDo_eq _ (by omega), numDo_eq _ (by omega), snumDo_eq _ (by omega), snumOk_eq, snumOk_eq]
  simp only [Option.bind_some, if_true]
  by_cases ca : NOk a
  case neg => 
    simp only [ca, decide_false, Bool.false_eq_true, if_false, laws_FnNumRest.j0, if_true, beq_self_eq_true]
    exact Tot.here rfl
  by_cases cb : NOk b
  case neg => 
    simp only [ca, cb, decide_true, decide_false, Bool.not_false, if_true, laws_FnNumRest.j0, beq_self_eq_true]
    exact Tot.here rfl
  simp only [ca, cb, decide_true, if_true, Bool.not_true]
  have j1 : Tot (laws_FnNumRest.j1 98 l a false) fun r => r = true := by
    simp only [laws_FnNumRest.j1, Bool.false_eq_true, if_false]
    refine Tot.then (at_tot hl (by omega) (by omega)) ?_
    intro n hn
    have n0 : 0 ≤ Int.tmod (wrap64 n) 32 := by rw [wrap64_id (by omega) (by omega)]; exact tmod_nonneg hn.1
    have n1 : Int.tmod (wrap64 n) 32 < 32 := tmod_lt (by omega)
    generalize Int.tmod (wrap64 n) 32 = m at *
    rw [numDo_eq _ (by omega)]
    simp only [Option.bind_some]
    have hm : NOk m := by unfold NOk; omega
    have e9 : NumDo 9 a m = if NOk (a * 2 ^ m.toNat) then (a * 2 ^ m.toNat, 0) else (0, 1) := by
      unfold NumDo
      rw [if_neg (by simp [ca, hm]), if_neg (by simp), if_neg (by omega), if_neg (by omega)]
      simp [Exact]
    rw [e9]
    by_cases hk : NOk (a * 2 ^ m.toNat)
    · rw [if_pos hk]
      dsimp only
      rw [if_pos rfl, numDo_eq _ (by omega)]
      simp only [Option.bind_some]
      have e10 : NumDo 10 (a * 2 ^ m.toNat) m = (a, 0) := by
        have e : a * 2 ^ m.toNat / 2 ^ m.toNat = a := Int.mul_ediv_cancel _ (by have := pow_pos' m.toNat; omega)
        unfold NumDo
        rw [if_neg (by simp [hk, hm]), if_neg (by simp), if_neg (by omega), if_neg (by omega)]
        simp [Exact, e, ca]
      rw [e10]
      exact Tot.here (by simp)
    · rw [if_neg hk]
      exact Tot.here (by simp)
  by_cases hz : b = 0
  · subst hz
    have e4 : NumDo 4 a 0 = (0, 2) := by unfold NumDo; rw [if_neg (by simp [ca, cb]), if_pos (by simp)]
    have e5 : NumDo 5 a 0 = (0, 2) := by unfold NumDo; rw [if_neg (by simp [ca, cb]), if_pos (by simp)]
    rw [e4, e5]
    exact Tot.here (by simp [laws_FnNumRest.j0])
  have rs := rest_small (a := a) cb hz
  have sg := rest_sign a b
  have md := Int.mul_tdiv_add_tmod a b
  have e5 : NumDo 5 a b = (Int.tmod a b, 0) := by
    have : NOk (Int.tmod a b) := by
      have h2 : (Int.tmod a b).natAbs < b.natAbs := by
        rw [Int.natAbs_tmod]; exact Nat.mod_lt _ (by omega)
      unfold NOk at cb ⊢
      omega
    unfold NumDo
    rw [if_neg (by simp [ca, cb]), if_neg (by simp [hz]), if_neg (by omega), if_neg (by omega)]
    simp [Exact, this]
  have e4 : NumDo 4 a b = if NOk (Int.tdiv a b) then (Int.tdiv a b, 0) else (0, 1) := by
    unfold NumDo
    rw [if_neg (by simp [ca, cb]), if_neg (by simp [hz]), if_neg (by omega), if_neg (by omega)]
    simp [Exact]
  rw [e5, e4]
  simp only [laws_FnNumRest.j0, Bool.false_eq_true, if_false, if_neg hz]
  have dn := mul_in32 ca cb
  unfold NOk at ca cb
  have rsq := mul_in (a := Int.tmod a b) (b := Int.tmod a b) (A := 2147483648) (B := 2147483648) (by omega) (by omega) (by omega) (by omega)
  have ra := mul_in (a := Int.tmod a b) (b := a) (A := 2147483648) (B := 2147483648) (by omega) (by omega) (by omega) (by omega)
  have bb := mul_in (a := b) (b := b) (A := 2147483648) (B := 2147483648) (by omega) (by omega) (by omega) (by omega)
  by_cases hq : NOk (Int.tdiv a b)
  · simp only [if_pos hq, if_true]
    have qb : Int.tdiv a b * b = a - Int.tmod a b := by rw [Int.mul_comm]; omega
    rw [qb, wrap64_id (x := a - Int.tmod a b) (by omega) (by omega)]
    rw [wrap64_id (x := a - Int.tmod a b + Int.tmod a b) (by omega) (by omega), if_pos (by omega)]
    rw [wrap64_id (x := Int.tmod a b * Int.tmod a b) (by omega) (by omega), wrap64_id (x := b * b) (by omega) (by omega), if_neg (by omega)]
    rw [wrap64_id (x := Int.tmod a b * a) (by omega) (by omega), if_neg (by omega)]
    exact j1
  · simp only [if_neg hq]
    rw [if_neg (by omega)]
    exact j1
end Go.Proofs.Ytmdcgkkkfncieaa.Pure
