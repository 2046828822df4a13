/- Ranges of numbers of 32 bits: plain definitions and their laws. Conditions: those in each law. -/
import Derived.Test.YtklkdpcopfjmcaaBitsV
namespace Go.Proofs.Ytklkdpcopfjmcaa.Base
set_option linter.unusedVariables false
set_option linter.unusedSimpArgs false
open Go.RowKit Go.Proofs.YtklkdpcopfjmcaaW.PrintWords Go.Proofs.YtklkdpcopfjmcaaW.PrintMore

def ROk (l h : Int) : Prop := (l = 1 ∧ h = 0) ∨ (NOk l ∧ NOk h ∧ l ≤ h)
instance (l h : Int) : Decidable (ROk l h) := inferInstanceAs (Decidable (_ ∨ _))
def RFrom (a b : Int) : Int × Int := if max a (-2147483648) > min b 2147483647 then (1, 0) else (max a (-2147483648), min b 2147483647)
def RMeet (l h l' h' : Int) : Int × Int := if ¬ ROk l h ∨ ¬ ROk l' h' ∨ l > h ∨ l' > h' then (1, 0) else RFrom (max l l') (min h h')
def RIn (l h l' h' : Int) : Prop := ROk l h ∧ ROk l' h' ∧ (l > h ∨ (l' ≤ l ∧ h ≤ h'))
instance (l h l' h' : Int) : Decidable (RIn l h l' h') := inferInstanceAs (Decidable (_ ∧ _))
def RHas (l h v : Int) : Prop := ROk l h ∧ l ≤ v ∧ v ≤ h
instance (l h v : Int) : Decidable (RHas l h v) := inferInstanceAs (Decidable (_ ∧ _))
theorem mn_eq (a b : Int) : mn a b = min a b := by unfold mn; split <;> omega
theorem mx_eq (a b : Int) : mx a b = max a b := by unfold mx; split <;> omega
theorem ROk.none {l h : Int} (k : ROk l h) (e : l > h) : l = 1 ∧ h = 0 := by
  rcases k with k | k
  · exact k
  · omega
theorem ROk.empty_iff {l h : Int} (k : ROk l h) : l > h ↔ (l = 1 ∧ h = 0) := ⟨k.none, fun e => by omega⟩
theorem ROk.some {l h : Int} (k : ROk l h) (e : ¬ l > h) : NOk l ∧ NOk h ∧ l ≤ h := by
  rcases k with k | k
  · omega
  · exact k
theorem rok_none : ROk 1 0 := Or.inl ⟨rfl, rfl⟩
theorem RFrom_ok (a b : Int) : ROk (RFrom a b).1 (RFrom a b).2 := by
  unfold RFrom
  split
  · exact rok_none
  · right; dsimp only; unfold NOk; omega
theorem RFrom_has (a b v : Int) : RHas (RFrom a b).1 (RFrom a b).2 v ↔ NOk v ∧ a ≤ v ∧ v ≤ b := by
  unfold RHas
  have o := RFrom_ok a b
  unfold RFrom at *
  unfold NOk
  split at o
  · rename_i c
    rw [if_pos c]; dsimp only at *; omega
  · rename_i c
    rw [if_neg c]; dsimp only at *
    constructor
    · intro h; omega
    · intro h; exact ⟨o, by omega⟩
theorem RHas.nok {l h v : Int} (k : RHas l h v) : NOk v ∧ ¬ l > h := by
  obtain ⟨o, a, b⟩ := k
  have e : ¬ l > h := by omega
  have x := o.some e
  unfold NOk at *
  omega
theorem RMeet_has (l h l' h' v : Int) : RHas (RMeet l h l' h').1 (RMeet l h l' h').2 v ↔ RHas l h v ∧ RHas l' h' v := by
  unfold RMeet
  by_cases c : ¬ ROk l h ∨ ¬ ROk l' h' ∨ l > h ∨ l' > h'
  · rw [if_pos c]
    constructor
    · intro k; have := k.nok; omega
    · rintro ⟨k, k'⟩
      have a := k.nok
      have b := k'.nok
      rcases c with c | c | c | c
      · exact absurd k.1 c
      · exact absurd k'.1 c
      · exact absurd c a.2
      · exact absurd c b.2
  · rw [if_neg c, RFrom_has]
    have a : ROk l h := Decidable.byContradiction fun n => c (Or.inl n)
    have b : ROk l' h' := Decidable.byContradiction fun n => c (Or.inr (Or.inl n))
    constructor
    · intro k; exact ⟨⟨a, by omega, by omega⟩, ⟨b, by omega, by omega⟩⟩
    · rintro ⟨k, k'⟩
      have := k.nok
      obtain ⟨-, k1, k2⟩ := k
      obtain ⟨-, k3, k4⟩ := k'
      exact ⟨this.1, by omega, by omega⟩
theorem RIn.refl {l h : Int} (o : ROk l h) : RIn l h l h := ⟨o, o, Or.inr ⟨Int.le_refl _, Int.le_refl _⟩⟩
theorem RIn.has {l h l' h' v : Int} (k : RIn l h l' h') (x : RHas l h v) : RHas l' h' v := by
  obtain ⟨-, o, k⟩ := k
  obtain ⟨-, a, b⟩ := x
  exact ⟨o, by omega, by omega⟩

theorem drop_rd {xs : List Int} {i : Int} (h0 : 0 ≤ i) (h : i < xs.length) : xs.drop i.toNat = rd xs i :: xs.drop (i.toNat + 1) := by
  have hi : i.toNat < xs.length := by omega
  rw [List.drop_eq_getElem_cons hi]
  unfold rd
  rw [List.getD_eq_getElem?_getD, List.getElem?_eq_getElem hi]
  rfl

end Go.Proofs.Ytklkdpcopfjmcaa.Base
