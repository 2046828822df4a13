/- Vals, ranges with rests: plain definitions and their laws. Conditions: those in each law. -/
import Derived.Test.YtlbheepfmjbpnaaRestMathV
namespace Go.Proofs.Ytlbheepfmjbpnaa.Base
set_option linter.unusedVariables false
set_option linter.unusedSimpArgs false
open Go.RowKit Go.Proofs.YtlbheepfmjbpnaaW.PrintWords Go.Proofs.YtlbheepfmjbpnaaW.PrintMore

theorem emod_le_self {x m : Int} (h : 0 ≤ x) (hm : 1 ≤ m) : x % m ≤ x := by
  have d := Int.mul_ediv_add_emod x m
  have q := Int.ediv_nonneg h (show 0 ≤ m by omega)
  have := Int.mul_nonneg (show 0 ≤ m by omega) q
  omega
def VMake (l h m a : Int) : Int × Int × Int × Int :=
  if ¬ ROk l h ∨ ¬ SOk m a ∨ l > h then (1, 0, 0, 0)
  else if m = 0 then (if RHas l h a then (a, a, 0, a) else (1, 0, 0, 0))
  else if l + (a - l) % m > h - (h - a) % m then (1, 0, 0, 0)
  else if l + (a - l) % m = h - (h - a) % m then (l + (a - l) % m, l + (a - l) % m, 0, l + (a - l) % m)
  else (l + (a - l) % m, h - (h - a) % m, m, a)
def VOk (l h m a : Int) : Prop := VMake l h m a = (l, h, m, a)
instance (l h m a : Int) : Decidable (VOk l h m a) := inferInstanceAs (Decidable (_ = _))
def VHas (l h m a v : Int) : Prop := VOk l h m a ∧ RHas l h v ∧ SHas m a v
instance (l h m a v : Int) : Decidable (VHas l h m a v) := inferInstanceAs (Decidable (_ ∧ _))

theorem vok_none : VOk 1 0 0 0 := by
  unfold VOk VMake; rw [if_pos (Or.inr (Or.inr (by decide)))]
theorem vok_one {v : Int} (h : NOk v) : VOk v v 0 v := by
  have o : ROk v v := Or.inr ⟨h, h, Int.le_refl _⟩
  unfold VOk VMake
  rw [if_neg (by intro c; rcases c with c | c | c; exact c o; exact c (Or.inl ⟨rfl, h⟩); omega), if_pos rfl, if_pos ⟨o, Int.le_refl _, Int.le_refl _⟩]
theorem vhas_one {v u : Int} (h : NOk v) : VHas v v 0 v u ↔ u = v := by
  constructor
  · intro k; have := k.2.1.2; omega
  · intro e; subst e
    exact ⟨vok_one h, ⟨Or.inr ⟨h, h, Int.le_refl _⟩, Int.le_refl _, Int.le_refl _⟩, ⟨Or.inl ⟨rfl, h⟩, h, Or.inl ⟨rfl, rfl⟩⟩⟩
theorem vhas_none (u : Int) : ¬ VHas 1 0 0 0 u := fun k => by have := k.2.1.2; omega

theorem ends {l h m a : Int} (o : ROk l h) (e : ¬ l > h) (s : SOk m a) (hm : m ≠ 0) :
    l ≤ l + (a - l) % m ∧ h - (h - a) % m ≤ h ∧ (l + (a - l) % m) % m = a ∧ (h - (h - a) % m) % m = a ∧
    ∀ v, l ≤ v → v ≤ h → v % m = a → l + (a - l) % m ≤ v ∧ v ≤ h - (h - a) % m := by
  have p := s.pos hm
  have e1 := Int.emod_nonneg (a - l) hm
  have e2 := Int.emod_nonneg (h - a) hm
  have am : a % m = a := Int.emod_eq_of_lt p.2.2.1 p.2.2.2
  have f1 := dvd_sub_mod (a - l) m
  have f2 := dvd_sub_mod (h - a) m
  have back : ∀ x, m ∣ x - a → x % m = a := fun x d => by
    rw [(Int.emod_eq_emod_iff_emod_sub_eq_zero (m := x) (n := m) (k := a)).mpr (Int.emod_eq_zero_of_dvd d), am]
  refine ⟨by omega, by omega, back _ ?_, back _ ?_, fun v h1 h2 hv => ?_⟩
  · have := Int.dvd_neg.mpr f1
    rwa [show -(a - l - (a - l) % m) = l + (a - l) % m - a by omega] at this
  · rwa [show h - a - (h - a) % m = h - (h - a) % m - a by omega] at f2
  · have dv : m ∣ v - a := by rw [← hv]; exact dvd_sub_mod v m
    constructor
    · have g : (v - l) % m = (a - l) % m := (Int.emod_eq_emod_iff_emod_sub_eq_zero).mpr (Int.emod_eq_zero_of_dvd (by rwa [show v - l - (a - l) = v - a by omega]))
      have := emod_le_self (x := v - l) (m := m) (by omega) p.1
      omega
    · have g : (h - v) % m = (h - a) % m := (Int.emod_eq_emod_iff_emod_sub_eq_zero).mpr (Int.emod_eq_zero_of_dvd (by
        have := Int.dvd_neg.mpr dv
        rwa [show -(v - a) = h - v - (h - a) by omega] at this))
      have := emod_le_self (x := h - v) (m := m) (by omega) p.1
      omega
theorem VMake_none {l h m a : Int} (c : ¬ ROk l h ∨ ¬ SOk m a ∨ l > h) : VMake l h m a = (1, 0, 0, 0) := by unfold VMake; rw [if_pos c]

theorem VMake_cases (l h m a : Int) :
    (VMake l h m a = (1, 0, 0, 0) ∧ ∀ v, ¬ (RHas l h v ∧ SHas m a v)) ∨
    (∃ x, VMake l h m a = (x, x, 0, x) ∧ NOk x ∧ ∀ v, (RHas l h v ∧ SHas m a v) ↔ v = x) ∨
    (∃ x y, VMake l h m a = (x, y, m, a) ∧ m ≠ 0 ∧ x < y ∧ l ≤ x ∧ y ≤ h ∧ NOk x ∧ NOk y ∧ SOk m a ∧ x % m = a ∧ y % m = a ∧ ∀ v, (RHas l h v ∧ SHas m a v) ↔ (x ≤ v ∧ v ≤ y ∧ SHas m a v)) := by
  by_cases c : ¬ ROk l h ∨ ¬ SOk m a ∨ l > h
  · left
    refine ⟨VMake_none c, fun v k => ?_⟩
    rcases c with c | c | c
    · exact c k.1.1
    · exact c k.2.1
    · have := k.1.2; omega
  have o : ROk l h := Decidable.byContradiction fun n => c (Or.inl n)
  have s : SOk m a := Decidable.byContradiction fun n => c (Or.inr (Or.inl n))
  have e : ¬ l > h := fun n => c (Or.inr (Or.inr n))
  have on := o.some e
  unfold VMake
  rw [if_neg c]
  by_cases hm : m = 0
  · rw [if_pos hm]
    by_cases k : RHas l h a
    · rw [if_pos k]
      right; left
      refine ⟨a, rfl, k.nok.1, fun v => ⟨fun ⟨_, y⟩ => ?_, fun y => ?_⟩⟩
      · rcases y.2.2 with y | y
        · exact y.2
        · exact absurd hm y.1
      · subst y; exact ⟨k, s, k.nok.1, Or.inl ⟨hm, rfl⟩⟩
    · rw [if_neg k]
      left
      refine ⟨rfl, fun v y => ?_⟩
      rcases y.2.2.2 with z | z
      · rw [z.2] at y; exact k y.1
      · exact z.1 hm
  rw [if_neg hm]
  have en := ends o e s hm
  have both : ∀ v, RHas l h v ∧ SHas m a v → l + (a - l) % m ≤ v ∧ v ≤ h - (h - a) % m := fun v k => by
    refine en.2.2.2.2 v k.1.2.1 k.1.2.2 ?_
    rcases k.2.2.2 with z | z
    · exact absurd z.1 hm
    · exact z.2
  by_cases g : l + (a - l) % m > h - (h - a) % m
  · rw [if_pos g]
    left
    exact ⟨rfl, fun v k => by have := both v k; omega⟩
  rw [if_neg g]
  have nx : NOk (l + (a - l) % m) := by unfold NOk at on ⊢; omega
  have ny : NOk (h - (h - a) % m) := by unfold NOk at on ⊢; omega
  by_cases f : l + (a - l) % m = h - (h - a) % m
  · rw [if_pos f]
    right; left
    refine ⟨_, rfl, nx, fun v => ⟨fun k => by have := both v k; omega, fun k => ?_⟩⟩
    subst k
    exact ⟨⟨o, by omega, by omega⟩, s, nx, Or.inr ⟨hm, en.2.2.1⟩⟩
  · rw [if_neg f]
    right; right
    refine ⟨_, _, rfl, hm, by omega, en.1, en.2.1, nx, ny, s, en.2.2.1, en.2.2.2.1, fun v => ⟨fun k => ⟨(both v k).1, (both v k).2, k.2⟩, fun k => ⟨⟨o, by omega, by omega⟩, k.2.2⟩⟩⟩
theorem VMake_ok (l h m a : Int) : VOk (VMake l h m a).1 (VMake l h m a).2.1 (VMake l h m a).2.2.1 (VMake l h m a).2.2.2 := by
  rcases VMake_cases l h m a with ⟨e, -⟩ | ⟨x, e, n, -⟩ | ⟨x, y, e, hm, lt, -, -, nx, ny, s, ex, ey, -⟩
  · rw [e]; exact vok_none
  · rw [e]; exact vok_one n
  · rw [e]
    have o : ROk x y := Or.inr ⟨nx, ny, by omega⟩
    have c : ¬ (¬ ROk x y ∨ ¬ SOk m a ∨ x > y) := by
      intro c; rcases c with c | c | c
      · exact c o
      · exact c s
      · omega
    have z1 : (a - x) % m = 0 := by
      rw [← Int.emod_eq_emod_iff_emod_sub_eq_zero, ex]
      have p := s.pos hm
      exact Int.emod_eq_of_lt p.2.2.1 p.2.2.2
    have z2 : (y - a) % m = 0 := by
      rw [← Int.emod_eq_emod_iff_emod_sub_eq_zero, ey]
      have p := s.pos hm
      exact (Int.emod_eq_of_lt p.2.2.1 p.2.2.2).symm
    show VMake x y m a = (x, y, m, a)
    unfold VMake
    rw [if_neg c, if_neg hm, z1, z2, if_neg (by omega), if_neg (by omega)]
    simp
theorem VMake_has (l h m a v : Int) : VHas (VMake l h m a).1 (VMake l h m a).2.1 (VMake l h m a).2.2.1 (VMake l h m a).2.2.2 v ↔ RHas l h v ∧ SHas m a v := by
  have ok := VMake_ok l h m a
  rcases VMake_cases l h m a with ⟨e, k⟩ | ⟨x, e, n, k⟩ | ⟨x, y, e, hm, lt, -, -, nx, ny, s, ex, ey, k⟩
  · rw [e]; exact ⟨fun z => absurd z (vhas_none v), fun z => absurd z (k v)⟩
  · rw [e, k v]; exact vhas_one n
  · rw [e] at ok ⊢
    rw [k v]
    constructor
    · intro z; exact ⟨z.2.1.2.1, z.2.1.2.2, z.2.2⟩
    · intro z; exact ⟨ok, ⟨Or.inr ⟨nx, ny, by dsimp only; omega⟩, z.1, z.2.1⟩, z.2.2⟩
end Go.Proofs.Ytlbheepfmjbpnaa.Base
