/- Rests: what a number may be by what it leaves: plain definitions and their laws. Conditions: those in each law. -/
import Derived.Test.YtklkdpcopfjmcaaGreatRangeMathV
namespace Go.Proofs.YtklkdpcopfjmcaaGreat.Base
set_option linter.unusedVariables false
set_option linter.unusedSimpArgs false
open Go.RowKit Go.Proofs.YtklkdpcopfjmcaaGreatW.PrintWords Go.Proofs.YtklkdpcopfjmcaaGreatW.PrintMore
theorem dvd_sub_mod (a m : Int) : m ∣ a - a % m := ⟨a / m, by have := Int.mul_ediv_add_emod a m; omega⟩
def uj (m a : Int) : Prop := (m = 0 ∧ uk a) ∨ (m ≠ 0 ∧ 1 ≤ m ∧ m ≤ 65536 ∧ 0 ≤ a ∧ a < m)
instance (m a : Int) : Decidable (uj m a) := inferInstanceAs (Decidable (_ ∨ _))
def yY (m a v : Int) : Prop := uj m a ∧ uk v ∧ ((m = 0 ∧ v = a) ∨ (m ≠ 0 ∧ v % m = a))
instance (m a v : Int) : Decidable (yY m a v) := inferInstanceAs (Decidable (_ ∧ _))
def DD (m : Int) : Int := if m > 65536 then (Int.gcd m 65536 : Int) else m
def Gn (n m : Int) : Int × Int := if DD m = 0 then (0, n) else (DD m, n % DD m)
def wW (m a m' a' : Int) : Int × Int := if ¬ uj m a ∨ ¬ uj m' a' then (1, 0) else Gn a (Int.gcd (Int.gcd m m' : Int) (a - a') : Int)
def Fq (m a m' a' : Int) : Prop := uj m a ∧ uj m' a' ∧ ((m' = 0 ∧ m = m' ∧ a = a') ∨ (m' ≠ 0 ∧ m % m' = 0 ∧ a % m' = a'))
instance (m a m' a' : Int) : Decidable (Fq m a m' a') := inferInstanceAs (Decidable (_ ∧ _))
theorem vH {m : Int} (h : m > 65536) : 1 ≤ (Int.gcd m 65536 : Int) ∧ (Int.gcd m 65536 : Int) ≤ 65536 := by
  have h1 := Int.gcd_pos_of_ne_zero_left (a := m) 65536 (by omega)
  have h2 := Int.gcd_le_right (b := 65536) m (by omega)
  omega
theorem uj.zero {m a : Int} (o : uj m a) (h : m = 0) : uk a := by
  rcases o with o | o
  · exact o.2
  · omega
theorem uj.pos {m a : Int} (o : uj m a) (h : m ≠ 0) : 1 ≤ m ∧ m ≤ 65536 ∧ 0 ≤ a ∧ a < m := by
  rcases o with o | o
  · omega
  · exact o.2
theorem uj.FL {m a : Int} (o : uj m a) : uk a ∧ 0 ≤ m ∧ m ≤ 65536 := by
  rcases o with o | o
  · exact ⟨o.2, by omega, by omega⟩
  · unfold uk; omega
theorem yY.dvd {m a v : Int} (k : yY m a v) : m ∣ v - a := by
  obtain ⟨o, -, h⟩ := k
  rcases h with ⟨h, e⟩ | ⟨h, e⟩
  · rw [e]; simp
  · rw [← e]
    exact dvd_sub_mod _ _
theorem yY.of_dvd {m a v : Int} (o : uj m a) (hv : uk v) (d : m ∣ v - a) : yY m a v := by
  refine ⟨o, hv, ?_⟩
  by_cases h : m = 0
  · left
    rw [h] at d
    have := Int.zero_dvd.mp d
    omega
  · right
    refine ⟨h, ?_⟩
    have p := o.pos h
    have : v % m = a % m := (Int.emod_eq_emod_iff_emod_sub_eq_zero).mpr (Int.emod_eq_zero_of_dvd d)
    rw [this, Int.emod_eq_of_lt p.2.2.1 p.2.2.2]
theorem Fq.dvd {m a m' a' : Int} (k : Fq m a m' a') : m' ∣ m ∧ m' ∣ a - a' := by
  obtain ⟨o, o', h⟩ := k
  rcases h with ⟨h, e, e'⟩ | ⟨h, e, e'⟩
  · subst e'; rw [h, e, h]; simp
  · refine ⟨Int.dvd_of_emod_eq_zero e, ?_⟩
    rw [← e']; exact dvd_sub_mod _ _
theorem Fq.of_dvd {m a m' a' : Int} (o : uj m a) (o' : uj m' a') (d : m' ∣ m) (d' : m' ∣ a - a') : Fq m a m' a' := by
  refine ⟨o, o', ?_⟩
  by_cases h : m' = 0
  · left
    rw [h] at d d'
    have := Int.zero_dvd.mp d
    have := Int.zero_dvd.mp d'
    omega
  · right
    refine ⟨h, Int.emod_eq_zero_of_dvd d, ?_⟩
    have p := o'.pos h
    have : a % m' = a' % m' := (Int.emod_eq_emod_iff_emod_sub_eq_zero).mpr (Int.emod_eq_zero_of_dvd d')
    rw [this, Int.emod_eq_of_lt p.2.2.1 p.2.2.2]
theorem Fq.has {m a m' a' v : Int} (k : Fq m a m' a') (x : yY m a v) : yY m' a' v := by
  have d := k.dvd
  have e := x.dvd
  refine yY.of_dvd k.2.1 x.2.1 ?_
  have := Int.dvd_add (Int.dvd_trans d.1 e) d.2
  rwa [show v - a + (a - a') = v - a' by omega] at this
end Go.Proofs.YtklkdpcopfjmcaaGreat.Base
