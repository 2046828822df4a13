/- Ranges of numbers of 32 bits: plain definitions and their laws. Conditions: those in each law. -/
import Derived.Test.YtklkdpcopfjmcaaGreatBitsV
namespace Go.Proofs.YtklkdpcopfjmcaaGreat.Base
set_option linter.unusedVariables false
set_option linter.unusedSimpArgs false
open Go.RowKit Go.Proofs.YtklkdpcopfjmcaaGreatW.PrintWords Go.Proofs.YtklkdpcopfjmcaaGreatW.PrintMore

def ROk (l h : Int) : Prop := (l = 1 ∧ h = 0) ∨ (NOk l ∧ NOk h ∧ l ≤ h)
instance (l h : Int) : Decidable (ROk l h) := inferInstanceAs (Decidable (_ ∨ _))
def RJoin (l h l' h' : Int) : Int × Int := if ¬ ROk l h ∨ ¬ ROk l' h' then (1, 0) else if l > h then (l', h') else if l' > h' then (l, h) else (min l l', max h h')
def RIn (l h l' h' : Int) : Prop := ROk l h ∧ ROk l' h' ∧ (l > h ∨ (l' ≤ l ∧ h ≤ h'))
instance (l h l' h' : Int) : Decidable (RIn l h l' h') := inferInstanceAs (Decidable (_ ∧ _))
def RHas (l h v : Int) : Prop := ROk l h ∧ l ≤ v ∧ v ≤ h
instance (l h v : Int) : Decidable (RHas l h v) := inferInstanceAs (Decidable (_ ∧ _))
theorem mn_eq (a b : Int) : mn a b = min a b := by unfold mn; split <;> omega
theorem mx_eq (a b : Int) : mx a b = max a b := by unfold mx; split <;> omega
theorem ROk.none {l h : Int} (k : ROk l h) (e : l > h) : l = 1 ∧ h = 0 := by
  rcases k with k | k
  · exact k
  · omega
theorem ROk.empty_iff {l h : Int} (k : ROk l h) : l > h ↔ (l = 1 ∧ h = 0) := ⟨k.none, fun e => by omega⟩
theorem ROk.some {l h : Int} (k : ROk l h) (e : ¬ l > h) : NOk l ∧ NOk h ∧ l ≤ h := by
  rcases k with k | k
  · omega
  · exact k
theorem RHas.nok {l h v : Int} (k : RHas l h v) : NOk v ∧ ¬ l > h := by
  obtain ⟨o, a, b⟩ := k
  have e : ¬ l > h := by omega
  have x := o.some e
  unfold NOk at *
  omega
theorem RIn.refl {l h : Int} (o : ROk l h) : RIn l h l h := ⟨o, o, Or.inr ⟨Int.le_refl _, Int.le_refl _⟩⟩
theorem RIn.has {l h l' h' v : Int} (k : RIn l h l' h') (x : RHas l h v) : RHas l' h' v := by
  obtain ⟨-, o, k⟩ := k
  obtain ⟨-, a, b⟩ := x
  exact ⟨o, by omega, by omega⟩

theorem drop_rd {xs : List Int} {i : Int} (h0 : 0 ≤ i) (h : i < xs.length) : xs.drop i.toNat = rd xs i :: xs.drop (i.toNat + 1) := by
  have hi : i.toNat < xs.length := by omega
  rw [List.drop_eq_getElem_cons hi]
  unfold rd
  rw [List.getD_eq_getElem?_getD, List.getElem?_eq_getElem hi]
  rfl

end Go.Proofs.YtklkdpcopfjmcaaGreat.Base
