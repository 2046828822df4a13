/- What is left of two ranges where a comparison holds: a plain definition and its laws. Conditions: those in each law. -/
import Derived.Test.YtkekcenlleebeaaRangeMathV
namespace Go.Proofs.Ytkekcenlleebeaa.Base
set_option linter.unusedVariables false
set_option linter.unusedSimpArgs false
open Go.RowKit Go.Proofs.YtkekcenlleebeaaW.PrintWords Go.Proofs.YtkekcenlleebeaaW.PrintMore

def Cmp (c p q : Int) : Prop := (c = 1 ∧ p = q) ∨ (c = 2 ∧ p ≠ q) ∨ (c = 3 ∧ p < q) ∨ (c = 4 ∧ p ≤ q) ∨ (c = 5 ∧ p > q) ∨ (c = 6 ∧ p ≥ q)
instance (c p q : Int) : Decidable (Cmp c p q) := inferInstanceAs (Decidable (_ ∨ _))
def RWithout (l h l' h' : Int) : Int × Int := if l' = h' ∧ l' = l then RFrom (l + 1) h else if l' = h' ∧ l' = h then RFrom l (h - 1) else (l, h)
def RCmp0 (c l h l' h' : Int) : (Int × Int) × (Int × Int) :=
  if c = 1 then (RMeet l h l' h', RMeet l h l' h')
  else if c = 2 then (RWithout l h l' h', RWithout l' h' l h)
  else if c = 3 then (RFrom l (min h (h' - 1)), RFrom (max l' (l + 1)) h')
  else (RFrom l (min h h'), RFrom (max l' l) h')
def RNorm (x y : Int × Int) : Int × Int × Int × Int := if x.1 > x.2 ∨ y.1 > y.2 then (1, 0, 1, 0) else (x.1, x.2, y.1, y.2)
def RCmp (c l h l' h' : Int) : Int × Int × Int × Int :=
  if ¬ ROk l h ∨ ¬ ROk l' h' ∨ l > h ∨ l' > h' then (1, 0, 1, 0)
  else if c = 1 ∨ c = 2 ∨ c = 3 ∨ c = 4 then RNorm (RCmp0 c l h l' h').1 (RCmp0 c l h l' h').2
  else if c = 5 then RNorm (RCmp0 3 l' h' l h).2 (RCmp0 3 l' h' l h).1
  else if c = 6 then RNorm (RCmp0 4 l' h' l h).2 (RCmp0 4 l' h' l h).1
  else (1, 0, 1, 0)
theorem RCmp_none {c l h l' h' : Int} (z : ¬ ROk l h ∨ ¬ ROk l' h' ∨ l > h ∨ l' > h') : RCmp c l h l' h' = (1, 0, 1, 0) := by unfold RCmp; rw [if_pos z]
theorem RCmp_live {l h l' h' : Int} (z1 : ROk l h) (z2 : ROk l' h') (z3 : ¬ l > h) (z4 : ¬ l' > h') : ¬ (¬ ROk l h ∨ ¬ ROk l' h' ∨ l > h ∨ l' > h') := by
  rintro (z | z | z | z)
  · exact z z1
  · exact z z2
  · exact z3 z
  · exact z4 z
theorem RCmp_low {c l h l' h' : Int} (z1 : ROk l h) (z2 : ROk l' h') (z3 : ¬ l > h) (z4 : ¬ l' > h') (hc : c = 1 ∨ c = 2 ∨ c = 3 ∨ c = 4) : RCmp c l h l' h' = RNorm (RCmp0 c l h l' h').1 (RCmp0 c l h l' h').2 := by
  unfold RCmp; rw [if_neg (RCmp_live z1 z2 z3 z4), if_pos hc]
theorem RCmp_5 {l h l' h' : Int} (z1 : ROk l h) (z2 : ROk l' h') (z3 : ¬ l > h) (z4 : ¬ l' > h') : RCmp 5 l h l' h' = RNorm (RCmp0 3 l' h' l h).2 (RCmp0 3 l' h' l h).1 := by
  unfold RCmp; rw [if_neg (RCmp_live z1 z2 z3 z4), if_neg (by decide), if_pos rfl]
theorem RCmp_6 {l h l' h' : Int} (z1 : ROk l h) (z2 : ROk l' h') (z3 : ¬ l > h) (z4 : ¬ l' > h') : RCmp 6 l h l' h' = RNorm (RCmp0 4 l' h' l h).2 (RCmp0 4 l' h' l h).1 := by
  unfold RCmp; rw [if_neg (RCmp_live z1 z2 z3 z4), if_neg (by decide), if_neg (by decide), if_pos rfl]
theorem RCmp_out {c l h l' h' : Int} (hc : ¬ (c = 1 ∨ c = 2 ∨ c = 3 ∨ c = 4)) (c5 : ¬ c = 5) (c6 : ¬ c = 6) : RCmp c l h l' h' = (1, 0, 1, 0) := by
  unfold RCmp
  by_cases z : ¬ ROk l h ∨ ¬ ROk l' h' ∨ l > h ∨ l' > h'
  · rw [if_pos z]
  · rw [if_neg z, if_neg hc, if_neg c5, if_neg c6]
theorem RNorm_swap (x y : Int × Int) : RNorm ((RNorm x y).2.2.1, (RNorm x y).2.2.2) ((RNorm x y).1, (RNorm x y).2.1) = RNorm y x := by
  unfold RNorm
  by_cases c : x.1 > x.2 ∨ y.1 > y.2
  · have c' : y.1 > y.2 ∨ x.1 > x.2 := c.symm
    rw [if_pos c, if_pos c', if_pos (Or.inl (by decide))]
  · have c' : ¬ (y.1 > y.2 ∨ x.1 > x.2) := fun h => c h.symm
    rw [if_neg c, if_neg c']
theorem RWithout_ok {l h l' h' : Int} (o : ROk l h) : ROk (RWithout l h l' h').1 (RWithout l h l' h').2 := by
  unfold RWithout
  split
  · exact RFrom_ok _ _
  · split
    · exact RFrom_ok _ _
    · exact o
theorem RCmp0_ok {c l h l' h' : Int} (o : ROk l h) (o' : ROk l' h') : ROk (RCmp0 c l h l' h').1.1 (RCmp0 c l h l' h').1.2 ∧ ROk (RCmp0 c l h l' h').2.1 (RCmp0 c l h l' h').2.2 := by
  unfold RCmp0
  split
  · exact ⟨RMeet_ok _ _ _ _, RMeet_ok _ _ _ _⟩
  split
  · exact ⟨RWithout_ok o, RWithout_ok o'⟩
  split
  · exact ⟨RFrom_ok _ _, RFrom_ok _ _⟩
  · exact ⟨RFrom_ok _ _, RFrom_ok _ _⟩
theorem RFrom_in {a b l h : Int} (o : ROk l h) (h1 : l ≤ a) (h2 : b ≤ h) : RIn (RFrom a b).1 (RFrom a b).2 l h := by
  refine ⟨RFrom_ok _ _, o, ?_⟩
  unfold RFrom
  by_cases c : max a (-2147483648) > min b 2147483647
  · rw [if_pos c]; exact Or.inl (by decide)
  · rw [if_neg c]; right; dsimp only; omega
theorem RWithout_in {l h l' h' : Int} (o : ROk l h) : RIn (RWithout l h l' h').1 (RWithout l h l' h').2 l h := by
  unfold RWithout
  split
  · exact RFrom_in o (by omega) (by omega)
  · split
    · exact RFrom_in o (by omega) (by omega)
    · exact RIn.refl o
theorem RWithout_has {l h l' h' p q : Int} (k : RHas l h p) (k' : RHas l' h' q) (n : p ≠ q) : RHas (RWithout l h l' h').1 (RWithout l h l' h').2 p := by
  have x := k.nok
  have y := k.2
  have z := k'.2
  unfold RWithout
  split
  · rw [RFrom_has]; exact ⟨x.1, by omega, by omega⟩
  · split
    · rw [RFrom_has]; exact ⟨x.1, by omega, by omega⟩
    · exact k
theorem RCmp0_in {c l h l' h' : Int} (o : ROk l h) (o' : ROk l' h') : RIn (RCmp0 c l h l' h').1.1 (RCmp0 c l h l' h').1.2 l h ∧ RIn (RCmp0 c l h l' h').2.1 (RCmp0 c l h l' h').2.2 l' h' := by
  unfold RCmp0
  split
  · exact ⟨RIn_meet_left o o', RIn_meet_right o o'⟩
  split
  · exact ⟨RWithout_in o, RWithout_in o'⟩
  split
  · exact ⟨RFrom_in o (by omega) (by omega), RFrom_in o' (by omega) (by omega)⟩
  · exact ⟨RFrom_in o (by omega) (by omega), RFrom_in o' (by omega) (by omega)⟩
theorem RCmp0_has {c l h l' h' p q : Int} (hc : c = 1 ∨ c = 2 ∨ c = 3 ∨ c = 4) (k : RHas l h p) (k' : RHas l' h' q) (n : Cmp c p q) :
    RHas (RCmp0 c l h l' h').1.1 (RCmp0 c l h l' h').1.2 p ∧ RHas (RCmp0 c l h l' h').2.1 (RCmp0 c l h l' h').2.2 q := by
  have x := k.nok
  have y := k.2
  have x' := k'.nok
  have y' := k'.2
  unfold Cmp at n
  unfold RCmp0
  by_cases c1 : c = 1
  · rw [if_pos c1]
    have e : p = q := by omega
    subst e
    exact ⟨(RMeet_has _ _ _ _ _).mpr ⟨k, k'⟩, (RMeet_has _ _ _ _ _).mpr ⟨k, k'⟩⟩
  rw [if_neg c1]
  by_cases c2 : c = 2
  · rw [if_pos c2]
    have e : p ≠ q := by omega
    exact ⟨RWithout_has k k' e, RWithout_has k' k (fun z => e z.symm)⟩
  rw [if_neg c2]
  by_cases c3 : c = 3
  · rw [if_pos c3]
    exact ⟨(RFrom_has _ _ _).mpr ⟨x.1, by omega, by omega⟩, (RFrom_has _ _ _).mpr ⟨x'.1, by omega, by omega⟩⟩
  · rw [if_neg c3]
    exact ⟨(RFrom_has _ _ _).mpr ⟨x.1, by omega, by omega⟩, (RFrom_has _ _ _).mpr ⟨x'.1, by omega, by omega⟩⟩
theorem RNorm_has {x y : Int × Int} {p q : Int} (k : RHas x.1 x.2 p) (k' : RHas y.1 y.2 q) : RHas (RNorm x y).1 (RNorm x y).2.1 p ∧ RHas (RNorm x y).2.2.1 (RNorm x y).2.2.2 q := by
  unfold RNorm
  rw [if_neg (by intro c; rcases c with c | c; exact k.nok.2 c; exact k'.nok.2 c)]
  exact ⟨k, k'⟩
theorem RNorm_in {x y : Int × Int} {l h l' h' : Int} (k : RIn x.1 x.2 l h) (k' : RIn y.1 y.2 l' h') : RIn (RNorm x y).1 (RNorm x y).2.1 l h ∧ RIn (RNorm x y).2.2.1 (RNorm x y).2.2.2 l' h' := by
  unfold RNorm
  split
  · exact ⟨⟨rok_none, k.2.1, Or.inl (by decide)⟩, ⟨rok_none, k'.2.1, Or.inl (by decide)⟩⟩
  · exact ⟨k, k'⟩
theorem RNorm_both (x y : Int × Int) : (RNorm x y).1 > (RNorm x y).2.1 ↔ (RNorm x y).2.2.1 > (RNorm x y).2.2.2 := by
  unfold RNorm
  split
  · exact Iff.rfl
  · rename_i c
    dsimp only
    constructor
    · intro h; exact absurd (Or.inl h) c
    · intro h; exact absurd (Or.inr h) c
theorem RCmp_has {c l h l' h' p q : Int} (k : RHas l h p) (k' : RHas l' h' q) (n : Cmp c p q) :
    RHas (RCmp c l h l' h').1 (RCmp c l h l' h').2.1 p ∧ RHas (RCmp c l h l' h').2.2.1 (RCmp c l h l' h').2.2.2 q := by
  unfold RCmp
  rw [if_neg (by intro z; rcases z with z | z | z | z; exact z k.1; exact z k'.1; exact k.nok.2 z; exact k'.nok.2 z)]
  by_cases c1 : c = 1 ∨ c = 2 ∨ c = 3 ∨ c = 4
  · rw [if_pos c1]
    have := RCmp0_has c1 k k' n
    exact RNorm_has this.1 this.2
  rw [if_neg c1]
  by_cases c5 : c = 5
  · rw [if_pos c5]
    have := RCmp0_has (c := 3) (by omega) k' k (by unfold Cmp at n ⊢; omega)
    exact RNorm_has this.2 this.1
  rw [if_neg c5]
  by_cases c6 : c = 6
  · rw [if_pos c6]
    have := RCmp0_has (c := 4) (by omega) k' k (by unfold Cmp at n ⊢; omega)
    exact RNorm_has this.2 this.1
  · unfold Cmp at n; omega
theorem RCmp_in {c l h l' h' : Int} (o : ROk l h) (o' : ROk l' h') :
    RIn (RCmp c l h l' h').1 (RCmp c l h l' h').2.1 l h ∧ RIn (RCmp c l h l' h').2.2.1 (RCmp c l h l' h').2.2.2 l' h' ∧ ((RCmp c l h l' h').1 > (RCmp c l h l' h').2.1 ↔ (RCmp c l h l' h').2.2.1 > (RCmp c l h l' h').2.2.2) := by
  have N : RIn 1 0 l h ∧ RIn 1 0 l' h' ∧ ((1 : Int) > 0 ↔ (1 : Int) > 0) := ⟨⟨rok_none, o, Or.inl (by decide)⟩, ⟨rok_none, o', Or.inl (by decide)⟩, Iff.rfl⟩
  unfold RCmp
  split
  · exact N
  split
  · have := RCmp0_in (c := c) o o'
    have r := RNorm_in this.1 this.2
    exact ⟨r.1, r.2, RNorm_both _ _⟩
  split
  · have := RCmp0_in (c := 3) o' o
    have r := RNorm_in this.2 this.1
    exact ⟨r.1, r.2, RNorm_both _ _⟩
  split
  · have := RCmp0_in (c := 4) o' o
    have r := RNorm_in this.2 this.1
    exact ⟨r.1, r.2, RNorm_both _ _⟩
  · exact N
theorem RCmp_ok (c l h l' h' : Int) : ROk (RCmp c l h l' h').1 (RCmp c l h l' h').2.1 ∧ ROk (RCmp c l h l' h').2.2.1 (RCmp c l h l' h').2.2.2 := by
  by_cases z : ¬ ROk l h ∨ ¬ ROk l' h' ∨ l > h ∨ l' > h'
  · unfold RCmp; rw [if_pos z]; exact ⟨rok_none, rok_none⟩
  · have o : ROk l h := Decidable.byContradiction fun n => z (Or.inl n)
    have o' : ROk l' h' := Decidable.byContradiction fun n => z (Or.inr (Or.inl n))
    have r := RCmp_in (c := c) o o'
    exact ⟨r.1.1, r.2.1.1⟩
end Go.Proofs.Ytkekcenlleebeaa.Base
