/- What an operator makes of two rests: a plain definition, and that it has what NumDo makes. Conditions: those in each law. -/
import Derived.Test.YtlbheepfmjbpnaaValMathV
namespace Go.Proofs.Ytlbheepfmjbpnaa.Base
set_option linter.unusedVariables false
set_option linter.unusedSimpArgs false
open Go.RowKit Go.Proofs.YtlbheepfmjbpnaaW.PrintWords Go.Proofs.YtlbheepfmjbpnaaW.PrintMore

def SWrap (op : Int) : Int := if op ≥ 11 then 4294967296 else 0
def SDo (op m a m' a' : Int) : Int × Int :=
  if ¬ (1 ≤ op ∧ op ≤ 13) ∨ ¬ SOk m a ∨ ¬ SOk m' a' then (1, 0)
  else if m = 0 ∧ m' = 0 then (if (NumDo op a a').2 = 0 then (0, (NumDo op a a').1) else (1, 0))
  else if op = 1 ∨ op = 11 then SOf (a + a') (Int.gcd (Int.gcd m m' : Int) (SWrap op) : Int)
  else if op = 2 ∨ op = 12 then SOf (a - a') (Int.gcd (Int.gcd m m' : Int) (SWrap op) : Int)
  else if op = 3 ∨ op = 13 then
    (if (Int.gcd (Int.gcd (m * m') (m * a') : Int) (m' * a) : Int) = 0 then (0, 0)
     else SOf (a * a') (Int.gcd (Int.gcd (Int.gcd (m * m') (m * a') : Int) (m' * a) : Int) (SWrap op) : Int))
  else if op = 9 ∧ m' = 0 ∧ 0 ≤ a' ∧ a' ≤ 31 then SOf (a * 2 ^ a'.toNat) (m * 2 ^ a'.toNat)
  else if op = 5 ∧ (Int.gcd (Int.gcd m m' : Int) a' : Int) ≠ 0 then SOf a (Int.gcd (Int.gcd m m' : Int) a' : Int)
  else (1, 0)

theorem NumDo_ok (op a b : Int) : NOk (NumDo op a b).1 := by
  have z : NOk 0 := by unfold NOk; omega
  unfold NumDo
  (repeat' split) <;> first | exact z | exact wrap32_in _ | assumption
theorem gcd_ne {m m' : Int} (h : ¬ (m = 0 ∧ m' = 0)) : (Int.gcd m m' : Int) ≠ 0 := by
  intro e
  have e' : Int.gcd m m' = 0 := by omega
  exact h ⟨Int.eq_zero_of_gcd_eq_zero_left e', Int.eq_zero_of_gcd_eq_zero_right e'⟩
theorem gcd_ne_left {g x : Int} (h : g ≠ 0) : (Int.gcd g x : Int) ≠ 0 := gcd_ne (fun e => h e.1)
theorem wrap32_dvd (x : Int) : (4294967296 : Int) ∣ wrap32 x - x := by
  unfold wrap32; omega
theorem sall_has {v : Int} (h : NOk v) : SHas 1 0 v := ⟨sok_all, h, Or.inr ⟨by omega, by omega⟩⟩
theorem SDo_has {op m a m' a' u v : Int} (h1 : 1 ≤ op ∧ op ≤ 13) (hu : SHas m a u) (hv : SHas m' a' v) (hf : (NumDo op u v).2 = 0) : SHas (SDo op m a m' a').1 (SDo op m a m' a').2 (NumDo op u v).1 := by
  have o := hu.1
  have o' := hv.1
  have nu := hu.2.1
  have nv := hv.2.1
  have r := NumDo_ok op u v
  have du := hu.dvd
  have dv := hv.dvd
  unfold SDo
  rw [if_neg (by simp [h1, o, o'])]
  by_cases c1 : m = 0 ∧ m' = 0
  · have eu : u = a := by rw [c1.1] at du; have := Int.zero_dvd.mp du; omega
    have ev : v = a' := by rw [c1.2] at dv; have := Int.zero_dvd.mp dv; omega
    subst eu; subst ev
    rw [if_pos c1, if_pos hf]
    exact ⟨Or.inl ⟨rfl, r⟩, r, Or.inl ⟨rfl, rfl⟩⟩
  rw [if_neg c1]
  have g := gcd_ne c1
  have gm : (Int.gcd m m' : Int) ∣ u - a := Int.dvd_trans (Int.gcd_dvd_left _ _) du
  have gm' : (Int.gcd m m' : Int) ∣ v - a' := Int.dvd_trans (Int.gcd_dvd_right _ _) dv
  -- what NumDo tells, up to a multiple of SWrap
  have tell : ∃ q : Int, (NumDo op u v).1 = Exact op u v + SWrap op * q := by
    unfold NumDo at hf ⊢
    rw [if_neg (by simp [h1, nu, nv])] at hf ⊢
    by_cases z1 : (op = 4 ∨ op = 5) ∧ v = 0
    · rw [if_pos z1] at hf; exact absurd hf (by decide)
    rw [if_neg z1] at hf ⊢
    by_cases z2 : (op = 9 ∨ op = 10) ∧ (v < 0 ∨ v > 31)
    · rw [if_pos z2] at hf; exact absurd hf (by decide)
    rw [if_neg z2] at hf ⊢
    by_cases z3 : 11 ≤ op
    · rw [if_pos z3]
      obtain ⟨q, hq⟩ := wrap32_dvd (Exact op u v)
      exact ⟨q, by unfold SWrap; rw [if_pos (show op ≥ 11 by omega)]; dsimp only; omega⟩
    rw [if_neg z3] at hf ⊢
    by_cases z4 : NOk (Exact op u v)
    · rw [if_pos z4]; exact ⟨0, by simp⟩
    · rw [if_neg z4] at hf; exact absurd hf (by decide)
  obtain ⟨q, hq⟩ := tell
  have wd : SWrap op ∣ (NumDo op u v).1 - Exact op u v := ⟨q, by omega⟩
  by_cases o1 : op = 1 ∨ op = 11
  · rw [if_pos o1]
    refine SOf_has (by omega) (fun e => absurd e (gcd_ne_left g)) r ?_
    have ex : Exact op u v = u + v := by unfold Exact; rw [if_pos o1]
    rw [ex] at wd
    have d1 := Int.dvd_trans (Int.gcd_dvd_left (Int.gcd m m' : Int) (SWrap op)) (Int.dvd_add gm gm')
    have d2 := Int.dvd_trans (Int.gcd_dvd_right (Int.gcd m m' : Int) (SWrap op)) wd
    have := Int.dvd_add d2 d1
    rwa [show (NumDo op u v).1 - (u + v) + (u - a + (v - a')) = (NumDo op u v).1 - (a + a') by omega] at this
  rw [if_neg o1]
  by_cases o2 : op = 2 ∨ op = 12
  · rw [if_pos o2]
    refine SOf_has (by omega) (fun e => absurd e (gcd_ne_left g)) r ?_
    have ex : Exact op u v = u - v := by unfold Exact; rw [if_neg o1, if_pos o2]
    rw [ex] at wd
    have d1 := Int.dvd_trans (Int.gcd_dvd_left (Int.gcd m m' : Int) (SWrap op)) (Int.dvd_sub gm gm')
    have d2 := Int.dvd_trans (Int.gcd_dvd_right (Int.gcd m m' : Int) (SWrap op)) wd
    have := Int.dvd_add d2 d1
    rwa [show (NumDo op u v).1 - (u - v) + (u - a - (v - a')) = (NumDo op u v).1 - (a - a') by omega] at this
  rw [if_neg o2]
  by_cases o3 : op = 3 ∨ op = 13
  · rw [if_pos o3]
    have ex : Exact op u v = u * v := by unfold Exact; rw [if_neg o1, if_neg o2, if_pos o3]
    have D : ∀ d : Int, d ∣ m * m' → d ∣ m * a' → d ∣ m' * a → d ∣ u * v - a * a' := by
      intro d e1 e2 e3
      obtain ⟨s, hs⟩ := du
      obtain ⟨t, ht⟩ := dv
      have eu : u = a + m * s := by omega
      have ev : v = a' + m' * t := by omega
      have : u * v - a * a' = m * m' * (s * t) + m * a' * s + m' * a * t := by
        rw [eu, ev, Int.add_mul, Int.mul_add, Int.mul_add]
        have h1 : m * s * (m' * t) = m * m' * (s * t) := by ac_rfl
        have h2 : m * s * a' = m * a' * s := by ac_rfl
        have h3 : a * (m' * t) = m' * a * t := by ac_rfl
        rw [h1, h2, h3]; omega
      rw [this]
      exact Int.dvd_add (Int.dvd_add (Int.dvd_mul_of_dvd_left e1) (Int.dvd_mul_of_dvd_left e2)) (Int.dvd_mul_of_dvd_left e3)
    by_cases z : (Int.gcd (Int.gcd (m * m') (m * a') : Int) (m' * a) : Int) = 0
    · rw [if_pos z]
      have z' : Int.gcd (Int.gcd (m * m') (m * a') : Int) (m' * a) = 0 := by omega
      have z1 := Int.eq_zero_of_gcd_eq_zero_left z'
      have z2 := Int.eq_zero_of_gcd_eq_zero_right z'
      have z1' : Int.gcd (m * m') (m * a') = 0 := by omega
      have z3 := Int.eq_zero_of_gcd_eq_zero_left z1'
      have z4 := Int.eq_zero_of_gcd_eq_zero_right z1'
      have d0 := D 0 (by rw [z3]; simp) (by rw [z4]; simp) (by rw [z2]; simp)
      have e0 := Int.zero_dvd.mp d0
      have aa : a * a' = 0 := by
        by_cases hm : m = 0
        · have hm' : m' ≠ 0 := fun e => c1 ⟨hm, e⟩
          rcases Int.mul_eq_zero.mp z2 with e | e
          · exact absurd e hm'
          · rw [e]; simp
        · rcases Int.mul_eq_zero.mp z4 with e | e
          · exact absurd e hm
          · rw [e]; simp
      have uv : u * v = 0 := by omega
      have : (NumDo op u v).1 = 0 := by
        unfold NumDo at hf ⊢
        rw [if_neg (by simp [h1, nu, nv]), if_neg (by omega), if_neg (by omega)] at hf ⊢
        rw [ex, uv] at hf ⊢
        split
        · show wrap32 0 = 0
          unfold wrap32; omega
        · rw [if_pos (by unfold NOk; omega)]
      rw [this]
      exact ⟨Or.inl ⟨rfl, by unfold NOk; omega⟩, by unfold NOk; omega, Or.inl ⟨rfl, rfl⟩⟩
    · rw [if_neg z]
      refine SOf_has (by omega) (fun e => absurd e (gcd_ne_left z)) r ?_
      rw [ex] at wd
      have e1 : (Int.gcd (Int.gcd (m * m') (m * a') : Int) (m' * a) : Int) ∣ m * m' := Int.dvd_trans (Int.gcd_dvd_left _ _) (Int.gcd_dvd_left _ _)
      have e2 : (Int.gcd (Int.gcd (m * m') (m * a') : Int) (m' * a) : Int) ∣ m * a' := Int.dvd_trans (Int.gcd_dvd_left _ _) (Int.gcd_dvd_right _ _)
      have e3 : (Int.gcd (Int.gcd (m * m') (m * a') : Int) (m' * a) : Int) ∣ m' * a := Int.gcd_dvd_right _ _
      have d1 := Int.dvd_trans (Int.gcd_dvd_left (Int.gcd (Int.gcd (m * m') (m * a') : Int) (m' * a) : Int) (SWrap op)) (D _ e1 e2 e3)
      have d2 := Int.dvd_trans (Int.gcd_dvd_right (Int.gcd (Int.gcd (m * m') (m * a') : Int) (m' * a) : Int) (SWrap op)) wd
      have := Int.dvd_add d2 d1
      rwa [show (NumDo op u v).1 - u * v + (u * v - a * a') = (NumDo op u v).1 - a * a' by omega] at this
  rw [if_neg o3]
  have w0 : 11 > op → SWrap op = 0 := fun h => by unfold SWrap; rw [if_neg (by omega)]
  by_cases o9 : op = 9 ∧ m' = 0 ∧ 0 ≤ a' ∧ a' ≤ 31
  · rw [if_pos o9]
    obtain ⟨e9, em, a0, a1⟩ := o9
    have ev : v = a' := by rw [em] at dv; have := Int.zero_dvd.mp dv; omega
    have p := pow_pos' a'.toNat
    have mn : m ≠ 0 := fun e => c1 ⟨e, em⟩
    have mp := o.pos mn
    refine SOf_has (Int.mul_nonneg (by omega) (by omega)) (fun e => by
      rcases Int.mul_eq_zero.mp e with e | e
      · exact absurd e mn
      · omega) r ?_
    have ex : Exact op u v = u * 2 ^ a'.toNat := by rw [ev, e9]; simp [Exact]
    rw [w0 (by omega), ex] at wd
    have := Int.zero_dvd.mp wd
    rw [show (NumDo op u v).1 = u * 2 ^ a'.toNat by omega, ← Int.sub_mul]
    exact Int.mul_dvd_mul du (Int.dvd_refl _)
  rw [if_neg o9]
  by_cases o5 : op = 5 ∧ (Int.gcd (Int.gcd m m' : Int) a' : Int) ≠ 0
  · rw [if_pos o5]
    refine SOf_has (by omega) (fun e => absurd e o5.2) r ?_
    have ex : Exact op u v = Int.tmod u v := by rw [o5.1]; simp [Exact]
    rw [w0 (by omega), ex] at wd
    have := Int.zero_dvd.mp wd
    rw [show (NumDo op u v).1 = Int.tmod u v by omega]
    have dm : (Int.gcd (Int.gcd m m' : Int) a' : Int) ∣ u - a := Int.dvd_trans (Int.gcd_dvd_left _ _) gm
    have dv' : (Int.gcd (Int.gcd m m' : Int) a' : Int) ∣ v := by
      have h := Int.dvd_add (Int.dvd_trans (Int.gcd_dvd_left (Int.gcd m m' : Int) a') gm') (Int.gcd_dvd_right (Int.gcd m m' : Int) a')
      rwa [show v - a' + a' = v by omega] at h
    have e := Int.mul_tdiv_add_tmod u v
    have dd : (Int.gcd (Int.gcd m m' : Int) a' : Int) ∣ v * Int.tdiv u v := Int.dvd_mul_of_dvd_left dv'
    have := Int.dvd_sub dm dd
    rwa [show u - a - v * Int.tdiv u v = Int.tmod u v - a by omega] at this
  rw [if_neg o5]
  exact sall_has r
end Go.Proofs.Ytlbheepfmjbpnaa.Base
