/- Ranges of numbers of 32 bits: plain definitions and their laws. Conditions: those in each law. -/
import Derived.Test.YtklkdpcopfjmcaaGreatBitsV
namespace Go.Proofs.YtklkdpcopfjmcaaGreat.Base
set_option linter.unusedVariables false
set_option linter.unusedSimpArgs false
open Go.RowKit Go.Proofs.YtklkdpcopfjmcaaGreatW.PrintWords Go.Proofs.YtklkdpcopfjmcaaGreatW.PrintMore
def sM (l h : Int) : Prop := (l = 1 ∧ h = 0) ∨ (uk l ∧ uk h ∧ l ≤ h)
instance (l h : Int) : Decidable (sM l h) := inferInstanceAs (Decidable (_ ∨ _))
def vY (l h l' h' : Int) : Int × Int := if ¬ sM l h ∨ ¬ sM l' h' then (1, 0) else if l > h then (l', h') else if l' > h' then (l, h) else (min l l', max h h')
def GD (l h l' h' : Int) : Prop := sM l h ∧ sM l' h' ∧ (l > h ∨ (l' ≤ l ∧ h ≤ h'))
instance (l h l' h' : Int) : Decidable (GD l h l' h') := inferInstanceAs (Decidable (_ ∧ _))
def yf (l h v : Int) : Prop := sM l h ∧ l ≤ v ∧ v ≤ h
instance (l h v : Int) : Decidable (yf l h v) := inferInstanceAs (Decidable (_ ∧ _))
def uX (v : Int) (o : Int) (l : List Int) : Int := l.foldl (fun o s => if s ≤ v ∧ o < s then s else o) o
def ups (v : Int) (o : Int) (l : List Int) : Int := l.foldl (fun o s => if v ≤ s ∧ s < o then s else o) o
def wJ (l h l' h' : Int) (steps : List Int) : Int × Int :=
  if ¬ sM l h ∨ ¬ sM l' h' ∨ l > h ∨ l' > h' then vY l h l' h'
  else (if min l l' < l then uX (min l l') (-2147483648) steps else min l l', if h < max h h' then ups (max h h') 2147483647 steps else max h h')
theorem EY (a b : Int) : mn a b = min a b := by unfold mn; split <;> omega
theorem EU (a b : Int) : mx a b = max a b := by unfold mx; split <;> omega
theorem sM.none {l h : Int} (k : sM l h) (e : l > h) : l = 1 ∧ h = 0 := by
  rcases k with k | k
  · exact k
  · omega
theorem sM.rJ {l h : Int} (k : sM l h) : l > h ↔ (l = 1 ∧ h = 0) := ⟨k.none, fun e => by omega⟩
theorem sM.some {l h : Int} (k : sM l h) (e : ¬ l > h) : uk l ∧ uk h ∧ l ≤ h := by
  rcases k with k | k
  · omega
  · exact k
theorem yf.FL {l h v : Int} (k : yf l h v) : uk v ∧ ¬ l > h := by
  obtain ⟨o, a, b⟩ := k
  have e : ¬ l > h := by omega
  have x := o.some e
  unfold uk at *
  omega
theorem GD.refl {l h : Int} (o : sM l h) : GD l h l h := ⟨o, o, Or.inr ⟨Int.le_refl _, Int.le_refl _⟩⟩
theorem GD.has {l h l' h' v : Int} (k : GD l h l' h') (x : yf l h v) : yf l' h' v := by
  obtain ⟨-, o, k⟩ := k
  obtain ⟨-, a, b⟩ := x
  exact ⟨o, by omega, by omega⟩
theorem uI {xs : List Int} {i : Int} (h0 : 0 ≤ i) (h : i < xs.length) : xs.drop i.toNat = rd xs i :: xs.drop (i.toNat + 1) := by
  have hi : i.toNat < xs.length := by omega
  rw [List.drop_eq_getElem_cons hi]
  unfold rd
  rw [List.getD_eq_getElem?_getD, List.getElem?_eq_getElem hi]
  rfl
end Go.Proofs.YtklkdpcopfjmcaaGreat.Base
