/- Rests: what a number may be by what it leaves: plain definitions and their laws. Conditions: those in each law. -/
import Derived.Test.YtlbheepfmjbpnaaRangeMathV
namespace Go.Proofs.Ytlbheepfmjbpnaa.Base
set_option linter.unusedVariables false
set_option linter.unusedSimpArgs false
open Go.RowKit Go.Proofs.YtlbheepfmjbpnaaW.PrintWords Go.Proofs.YtlbheepfmjbpnaaW.PrintMore

theorem dvd_sub_mod (a m : Int) : m ∣ a - a % m := ⟨a / m, by have := Int.mul_ediv_add_emod a m; omega⟩
def SOk (m a : Int) : Prop := (m = 0 ∧ NOk a) ∨ (m ≠ 0 ∧ 1 ≤ m ∧ m ≤ 65536 ∧ 0 ≤ a ∧ a < m)
instance (m a : Int) : Decidable (SOk m a) := inferInstanceAs (Decidable (_ ∨ _))
def SHas (m a v : Int) : Prop := SOk m a ∧ NOk v ∧ ((m = 0 ∧ v = a) ∨ (m ≠ 0 ∧ v % m = a))
instance (m a v : Int) : Decidable (SHas m a v) := inferInstanceAs (Decidable (_ ∧ _))
def SCut (m : Int) : Int := if m > 65536 then (Int.gcd m 65536 : Int) else m
def SOf (n m : Int) : Int × Int := if SCut m = 0 then (0, n) else (SCut m, n % SCut m)
def SIn (m a m' a' : Int) : Prop := SOk m a ∧ SOk m' a' ∧ ((m' = 0 ∧ m = m' ∧ a = a') ∨ (m' ≠ 0 ∧ m % m' = 0 ∧ a % m' = a'))
instance (m a m' a' : Int) : Decidable (SIn m a m' a') := inferInstanceAs (Decidable (_ ∧ _))

theorem gcd_le_65536 {m : Int} (h : m > 65536) : 1 ≤ (Int.gcd m 65536 : Int) ∧ (Int.gcd m 65536 : Int) ≤ 65536 := by
  have h1 := Int.gcd_pos_of_ne_zero_left (a := m) 65536 (by omega)
  have h2 := Int.gcd_le_right (b := 65536) m (by omega)
  omega
theorem SCut_in {m : Int} (h : 0 ≤ m) : 0 ≤ SCut m ∧ SCut m ≤ 65536 ∧ (SCut m = 0 ↔ m = 0) := by
  unfold SCut
  split
  · rename_i c
    have := gcd_le_65536 c
    omega
  · omega
theorem SCut_dvd (m : Int) : SCut m ∣ m := by
  unfold SCut
  split
  · exact Int.gcd_dvd_left _ _
  · exact Int.dvd_refl _
theorem SOf_ok {n m : Int} (h : 0 ≤ m) (hn : m = 0 → NOk n) : SOk (SOf n m).1 (SOf n m).2 := by
  have c := SCut_in h
  unfold SOf
  split
  · rename_i e; left; exact ⟨rfl, hn (c.2.2.mp e)⟩
  · rename_i e
    right
    have := Int.emod_nonneg n (b := SCut m) e
    have := Int.emod_lt_of_pos n (b := SCut m) (by omega)
    dsimp only
    omega
theorem SOf_has {n m v : Int} (h : 0 ≤ m) (hn : m = 0 → NOk n) (hv : NOk v) (d : m ∣ v - n) : SHas (SOf n m).1 (SOf n m).2 v := by
  refine ⟨SOf_ok h hn, hv, ?_⟩
  have c := SCut_in h
  unfold SOf
  split
  · rename_i e
    left
    have e0 := c.2.2.mp e
    rw [e0] at d
    have := Int.zero_dvd.mp d
    exact ⟨rfl, by dsimp only; omega⟩
  · rename_i e
    right
    refine ⟨e, ?_⟩
    dsimp only
    have dd : SCut m ∣ v - n := Int.dvd_trans (SCut_dvd m) d
    exact (Int.emod_eq_emod_iff_emod_sub_eq_zero).mpr (Int.emod_eq_zero_of_dvd dd)
theorem sok_all : SOk 1 0 := Or.inr (by omega)
theorem SOk.zero {m a : Int} (o : SOk m a) (h : m = 0) : NOk a := by
  rcases o with o | o
  · exact o.2
  · omega
theorem SOk.pos {m a : Int} (o : SOk m a) (h : m ≠ 0) : 1 ≤ m ∧ m ≤ 65536 ∧ 0 ≤ a ∧ a < m := by
  rcases o with o | o
  · omega
  · exact o.2
theorem SOk.nok {m a : Int} (o : SOk m a) : NOk a ∧ 0 ≤ m ∧ m ≤ 65536 := by
  rcases o with o | o
  · exact ⟨o.2, by omega, by omega⟩
  · unfold NOk; omega
theorem SHas.dvd {m a v : Int} (k : SHas m a v) : m ∣ v - a := by
  obtain ⟨o, -, h⟩ := k
  rcases h with ⟨h, e⟩ | ⟨h, e⟩
  · rw [e]; simp
  · rw [← e]
    exact dvd_sub_mod _ _
theorem SHas.of_dvd {m a v : Int} (o : SOk m a) (hv : NOk v) (d : m ∣ v - a) : SHas m a v := by
  refine ⟨o, hv, ?_⟩
  by_cases h : m = 0
  · left
    rw [h] at d
    have := Int.zero_dvd.mp d
    omega
  · right
    refine ⟨h, ?_⟩
    have p := o.pos h
    have : v % m = a % m := (Int.emod_eq_emod_iff_emod_sub_eq_zero).mpr (Int.emod_eq_zero_of_dvd d)
    rw [this, Int.emod_eq_of_lt p.2.2.1 p.2.2.2]
theorem SIn.dvd {m a m' a' : Int} (k : SIn m a m' a') : m' ∣ m ∧ m' ∣ a - a' := by
  obtain ⟨o, o', h⟩ := k
  rcases h with ⟨h, e, e'⟩ | ⟨h, e, e'⟩
  · subst e'; rw [h, e, h]; simp
  · refine ⟨Int.dvd_of_emod_eq_zero e, ?_⟩
    rw [← e']; exact dvd_sub_mod _ _
theorem SIn.of_dvd {m a m' a' : Int} (o : SOk m a) (o' : SOk m' a') (d : m' ∣ m) (d' : m' ∣ a - a') : SIn m a m' a' := by
  refine ⟨o, o', ?_⟩
  by_cases h : m' = 0
  · left
    rw [h] at d d'
    have := Int.zero_dvd.mp d
    have := Int.zero_dvd.mp d'
    omega
  · right
    refine ⟨h, Int.emod_eq_zero_of_dvd d, ?_⟩
    have p := o'.pos h
    have : a % m' = a' % m' := (Int.emod_eq_emod_iff_emod_sub_eq_zero).mpr (Int.emod_eq_zero_of_dvd d')
    rw [this, Int.emod_eq_of_lt p.2.2.1 p.2.2.2]
theorem SIn.has {m a m' a' v : Int} (k : SIn m a m' a') (x : SHas m a v) : SHas m' a' v := by
  have d := k.dvd
  have e := x.dvd
  refine SHas.of_dvd k.2.1 x.2.1 ?_
  have := Int.dvd_add (Int.dvd_trans d.1 e) d.2
  rwa [show v - a + (a - a') = v - a' by omega] at this
/-! ### Two rests at once -/
end Go.Proofs.Ytlbheepfmjbpnaa.Base
