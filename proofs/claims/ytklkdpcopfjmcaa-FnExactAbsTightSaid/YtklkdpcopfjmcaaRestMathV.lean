/- Rests: what a number may be by what it leaves: plain definitions and their laws. Conditions: those in each law. -/
import Derived.Test.YtklkdpcopfjmcaaRangeMathV
namespace Go.Proofs.Ytklkdpcopfjmcaa.Base
set_option linter.unusedVariables false
set_option linter.unusedSimpArgs false
open Go.RowKit Go.Proofs.YtklkdpcopfjmcaaW.PrintWords Go.Proofs.YtklkdpcopfjmcaaW.PrintMore

theorem dvd_sub_mod (a m : Int) : m ∣ a - a % m := ⟨a / m, by have := Int.mul_ediv_add_emod a m; omega⟩
def SOk (m a : Int) : Prop := (m = 0 ∧ NOk a) ∨ (m ≠ 0 ∧ 1 ≤ m ∧ m ≤ 65536 ∧ 0 ≤ a ∧ a < m)
instance (m a : Int) : Decidable (SOk m a) := inferInstanceAs (Decidable (_ ∨ _))
def SHas (m a v : Int) : Prop := SOk m a ∧ NOk v ∧ ((m = 0 ∧ v = a) ∨ (m ≠ 0 ∧ v % m = a))
instance (m a v : Int) : Decidable (SHas m a v) := inferInstanceAs (Decidable (_ ∧ _))
def SIn (m a m' a' : Int) : Prop := SOk m a ∧ SOk m' a' ∧ ((m' = 0 ∧ m = m' ∧ a = a') ∨ (m' ≠ 0 ∧ m % m' = 0 ∧ a % m' = a'))
instance (m a m' a' : Int) : Decidable (SIn m a m' a') := inferInstanceAs (Decidable (_ ∧ _))

theorem SOk.zero {m a : Int} (o : SOk m a) (h : m = 0) : NOk a := by
  rcases o with o | o
  · exact o.2
  · omega
theorem SOk.pos {m a : Int} (o : SOk m a) (h : m ≠ 0) : 1 ≤ m ∧ m ≤ 65536 ∧ 0 ≤ a ∧ a < m := by
  rcases o with o | o
  · omega
  · exact o.2
theorem SOk.nok {m a : Int} (o : SOk m a) : NOk a ∧ 0 ≤ m ∧ m ≤ 65536 := by
  rcases o with o | o
  · exact ⟨o.2, by omega, by omega⟩
  · unfold NOk; omega
theorem SHas.dvd {m a v : Int} (k : SHas m a v) : m ∣ v - a := by
  obtain ⟨o, -, h⟩ := k
  rcases h with ⟨h, e⟩ | ⟨h, e⟩
  · rw [e]; simp
  · rw [← e]
    exact dvd_sub_mod _ _
theorem SHas.of_dvd {m a v : Int} (o : SOk m a) (hv : NOk v) (d : m ∣ v - a) : SHas m a v := by
  refine ⟨o, hv, ?_⟩
  by_cases h : m = 0
  · left
    rw [h] at d
    have := Int.zero_dvd.mp d
    omega
  · right
    refine ⟨h, ?_⟩
    have p := o.pos h
    have : v % m = a % m := (Int.emod_eq_emod_iff_emod_sub_eq_zero).mpr (Int.emod_eq_zero_of_dvd d)
    rw [this, Int.emod_eq_of_lt p.2.2.1 p.2.2.2]
theorem SIn.dvd {m a m' a' : Int} (k : SIn m a m' a') : m' ∣ m ∧ m' ∣ a - a' := by
  obtain ⟨o, o', h⟩ := k
  rcases h with ⟨h, e, e'⟩ | ⟨h, e, e'⟩
  · subst e'; rw [h, e, h]; simp
  · refine ⟨Int.dvd_of_emod_eq_zero e, ?_⟩
    rw [← e']; exact dvd_sub_mod _ _
theorem SIn.of_dvd {m a m' a' : Int} (o : SOk m a) (o' : SOk m' a') (d : m' ∣ m) (d' : m' ∣ a - a') : SIn m a m' a' := by
  refine ⟨o, o', ?_⟩
  by_cases h : m' = 0
  · left
    rw [h] at d d'
    have := Int.zero_dvd.mp d
    have := Int.zero_dvd.mp d'
    omega
  · right
    refine ⟨h, Int.emod_eq_zero_of_dvd d, ?_⟩
    have p := o'.pos h
    have : a % m' = a' % m' := (Int.emod_eq_emod_iff_emod_sub_eq_zero).mpr (Int.emod_eq_zero_of_dvd d')
    rw [this, Int.emod_eq_of_lt p.2.2.1 p.2.2.2]
theorem SIn.has {m a m' a' v : Int} (k : SIn m a m' a') (x : SHas m a v) : SHas m' a' v := by
  have d := k.dvd
  have e := x.dvd
  refine SHas.of_dvd k.2.1 x.2.1 ?_
  have := Int.dvd_add (Int.dvd_trans d.1 e) d.2
  rwa [show v - a + (a - a') = v - a' by omega] at this
/-! ### Two rests at once -/
theorem bezout (a b : Nat) : ∃ x y : Int, (Nat.gcd a b : Int) = a * x + b * y := by
  induction a, b using Nat.gcd.induction with
  | H0 n => exact ⟨0, 1, by simp⟩
  | H1 m n hm ih =>
    obtain ⟨x, y, h⟩ := ih
    refine ⟨y - (n / m : Nat) * x, x, ?_⟩
    rw [Nat.gcd_rec, h]
    have e : ((n % m : Nat) : Int) = n - m * (n / m : Nat) := by
      have := Nat.div_add_mod n m
      have : ((m * (n / m) + n % m : Nat) : Int) = n := by rw [this]
      push_cast at this ⊢
      omega
    rw [e, Int.sub_mul, Int.mul_sub, ← Int.mul_assoc]
    omega
def Both (m a m' a' x : Int) : Prop := 0 ≤ x ∧ x < (Int.lcm m m' : Int) ∧ x % m = a ∧ x % m' = a'
theorem both_exists {m a m' a' : Int} (hm : 1 ≤ m) (hm' : 1 ≤ m') (ha : 0 ≤ a) (ha1 : a < m) (hb : 0 ≤ a') (hb1 : a' < m') (d : (Int.gcd m m' : Int) ∣ a - a') : ∃ x, Both m a m' a' x := by
  obtain ⟨x, y, h⟩ := bezout m.natAbs m'.natAbs
  obtain ⟨t, ht⟩ := d
  have h' : (Int.gcd m m' : Int) = m * x + m' * y := by
    have : (Int.gcd m m' : Int) = (Nat.gcd m.natAbs m'.natAbs : Int) := rfl
    rw [this, h]
    have e1 : (m.natAbs : Int) = m := by omega
    have e2 : (m'.natAbs : Int) = m' := by omega
    rw [e1, e2]
  have L := Int.lcm_pos (m := m) (n := m') (by omega) (by omega)
  have d1 : m ∣ (Int.lcm m m' : Int) := Int.dvd_lcm_left _ _
  have d2 : m' ∣ (Int.lcm m m' : Int) := Int.dvd_lcm_right _ _
  refine ⟨(a - m * x * t) % (Int.lcm m m' : Int), Int.emod_nonneg _ (by omega), Int.emod_lt_of_pos _ (by omega), ?_, ?_⟩
  · rw [Int.emod_emod_of_dvd _ d1]
    have : (a - m * x * t) % m = a % m := by
      rw [Int.mul_assoc]; exact Int.sub_mul_emod_self_left ..
    rw [this, Int.emod_eq_of_lt ha ha1]
  · rw [Int.emod_emod_of_dvd _ d2]
    have e : a - m * x * t = a' + m' * (y * t) := by
      have : a - a' = m * x * t + m' * (y * t) := by rw [ht, h', Int.add_mul, Int.mul_assoc m' y t]
      omega
    rw [e, Int.add_mul_emod_self_left, Int.emod_eq_of_lt hb hb1]
theorem both_unique {m a m' a' x y : Int} (hx : Both m a m' a' x) (hy : Both m a m' a' y) : x = y := by
  obtain ⟨x0, x1, x2, x3⟩ := hx
  obtain ⟨y0, y1, y2, y3⟩ := hy
  have d1 : m ∣ x - y := Int.dvd_of_emod_eq_zero ((Int.emod_eq_emod_iff_emod_sub_eq_zero).mp (x2.trans y2.symm))
  have d2 : m' ∣ x - y := Int.dvd_of_emod_eq_zero ((Int.emod_eq_emod_iff_emod_sub_eq_zero).mp (x3.trans y3.symm))
  have d : (Int.lcm m m' : Int) ∣ x - y := Int.coe_lcm_dvd d1 d2
  obtain ⟨t, ht⟩ := d
  have : t = 0 := by
    rcases Int.lt_trichotomy t 0 with h | h | h
    · have := Int.mul_le_mul_of_nonneg_left (show t ≤ -1 by omega) (show 0 ≤ (Int.lcm m m' : Int) by omega)
      omega
    · exact h
    · have := Int.mul_le_mul_of_nonneg_left (show 1 ≤ t by omega) (show 0 ≤ (Int.lcm m m' : Int) by omega)
      omega
  rw [this] at ht; omega
theorem both_gcd {m a m' a' v : Int} (h : v % m = a) (h' : v % m' = a') : (Int.gcd m m' : Int) ∣ a - a' := by
  have e1 : m ∣ v - a := by rw [← h]; exact dvd_sub_mod _ _
  have e2 : m' ∣ v - a' := by rw [← h']; exact dvd_sub_mod _ _
  have := Int.dvd_sub (Int.dvd_trans (Int.gcd_dvd_right m m') e2) (Int.dvd_trans (Int.gcd_dvd_left m m') e1)
  rwa [show v - a' - (v - a) = a - a' by omega] at this
open Classical in
noncomputable def bothOf (m a m' a' : Int) : Int := if h : ∃ x, Both m a m' a' x then Classical.choose h else 0
theorem bothOf_eq {m a m' a' x : Int} (h : Both m a m' a' x) : bothOf m a m' a' = x := by
  unfold bothOf
  rw [dif_pos ⟨x, h⟩]
  exact both_unique (Classical.choose_spec (⟨x, h⟩ : ∃ x, Both m a m' a' x)) h
theorem both_swap {m a m' a' x : Int} (h : Both m a m' a' x) : Both m' a' m a x := by
  obtain ⟨h0, h1, h2, h3⟩ := h
  exact ⟨h0, by rw [Int.lcm_comm]; exact h1, h3, h2⟩

noncomputable def SMeet (m a m' a' : Int) : Int × Int × Bool :=
  if ¬ SOk m a ∨ ¬ SOk m' a' then (0, 0, false)
  else if m = 0 then (if SHas m' a' a then (m, a, true) else (0, 0, false))
  else if m' = 0 then (if SHas m a a' then (m', a', true) else (0, 0, false))
  else if ¬ (a - a') % (Int.gcd m m' : Int) = 0 then (0, 0, false)
  else if (Int.lcm m m' : Int) > 65536 then (if m' > m then (m', a', true) else (m, a, true))
  else ((Int.lcm m m' : Int), bothOf m a m' a', true)

theorem SMeet_none {m a m' a' : Int} (o : SOk m a) (o' : SOk m' a') (h : (SMeet m a m' a').2.2 = false) (v : Int) : ¬ (SHas m a v ∧ SHas m' a' v) := by
  rintro ⟨x, x'⟩
  unfold SMeet at h
  rw [if_neg (by simp [o, o'])] at h
  by_cases c : m = 0
  · rw [if_pos c] at h
    rcases x.2.2 with ⟨-, e⟩ | ⟨n, -⟩
    · rw [e] at x'; rw [if_pos x'] at h; simp at h
    · exact n c
  rw [if_neg c] at h
  by_cases c' : m' = 0
  · rw [if_pos c'] at h
    rcases x'.2.2 with ⟨-, e⟩ | ⟨n, -⟩
    · rw [e] at x; rw [if_pos x] at h; simp at h
    · exact n c'
  rw [if_neg c'] at h
  have e1 : v % m = a := by rcases x.2.2 with ⟨e, -⟩ | ⟨-, e⟩; exact absurd e c; exact e
  have e2 : v % m' = a' := by rcases x'.2.2 with ⟨e, -⟩ | ⟨-, e⟩; exact absurd e c'; exact e
  have g := Int.emod_eq_zero_of_dvd (both_gcd e1 e2)
  rw [if_neg (by simp [g])] at h
  split at h
  · split at h <;> simp at h
  · simp at h
theorem SMeet_some {m a m' a' : Int} (h : (SMeet m a m' a').2.2 = true) : SOk (SMeet m a m' a').1 (SMeet m a m' a').2.1 ∧ ∀ v, SHas m a v → SHas m' a' v → SHas (SMeet m a m' a').1 (SMeet m a m' a').2.1 v := by
  unfold SMeet at h ⊢
  by_cases c0 : ¬ SOk m a ∨ ¬ SOk m' a'
  · rw [if_pos c0] at h; simp at h
  have o : SOk m a := Decidable.byContradiction fun n => c0 (Or.inl n)
  have o' : SOk m' a' := Decidable.byContradiction fun n => c0 (Or.inr n)
  rw [if_neg c0] at h
  simp only [if_neg c0]
  by_cases c : m = 0
  · rw [if_pos c] at h
    simp only [if_pos c]
    by_cases d : SHas m' a' a
    · simp only [if_pos d]; exact ⟨o, fun v x _ => x⟩
    · rw [if_neg d] at h; simp at h
  rw [if_neg c] at h
  simp only [if_neg c]
  by_cases c' : m' = 0
  · rw [if_pos c'] at h
    simp only [if_pos c']
    by_cases d : SHas m a a'
    · simp only [if_pos d]; exact ⟨o', fun v _ x => x⟩
    · rw [if_neg d] at h; simp at h
  rw [if_neg c'] at h
  simp only [if_neg c']
  by_cases g : ¬ (a - a') % (Int.gcd m m' : Int) = 0
  · rw [if_pos g] at h; simp at h
  simp only [if_neg g]
  by_cases l : (Int.lcm m m' : Int) > 65536
  · simp only [if_pos l]
    by_cases w : m' > m
    · simp only [if_pos w]; exact ⟨o', fun v _ x => x⟩
    · simp only [if_neg w]; exact ⟨o, fun v x _ => x⟩
  simp only [if_neg l]
  have p := o.pos c
  have p' := o'.pos c'
  obtain ⟨x, hx⟩ := both_exists p.1 p'.1 p.2.2.1 p.2.2.2 p'.2.2.1 p'.2.2.2 (Int.dvd_of_emod_eq_zero (Decidable.byContradiction fun n => g n))
  rw [bothOf_eq hx]
  have L := Int.lcm_pos (m := m) (n := m') (by omega) (by omega)
  have ok : SOk (Int.lcm m m' : Int) x := Or.inr ⟨by omega, by omega, by omega, hx.1, hx.2.1⟩
  refine ⟨ok, fun v y y' => SHas.of_dvd ok y.2.1 ?_⟩
  have e1 : v % m = a := by rcases y.2.2 with ⟨e, -⟩ | ⟨-, e⟩; exact absurd e c; exact e
  have e2 : v % m' = a' := by rcases y'.2.2 with ⟨e, -⟩ | ⟨-, e⟩; exact absurd e c'; exact e
  exact Int.coe_lcm_dvd (Int.dvd_of_emod_eq_zero ((Int.emod_eq_emod_iff_emod_sub_eq_zero).mp (e1.trans hx.2.2.1.symm))) (Int.dvd_of_emod_eq_zero ((Int.emod_eq_emod_iff_emod_sub_eq_zero).mp (e2.trans hx.2.2.2.symm)))
end Go.Proofs.Ytklkdpcopfjmcaa.Base
