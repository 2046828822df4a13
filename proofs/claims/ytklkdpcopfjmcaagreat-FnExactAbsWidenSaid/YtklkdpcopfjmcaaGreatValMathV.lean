/- Vals, ranges with rests: plain definitions and their laws. Conditions: those in each law. -/
import Derived.Test.YtklkdpcopfjmcaaGreatRestMathV
namespace Go.Proofs.YtklkdpcopfjmcaaGreat.Base
set_option linter.unusedVariables false
set_option linter.unusedSimpArgs false
open Go.RowKit Go.Proofs.YtklkdpcopfjmcaaGreatW.PrintWords Go.Proofs.YtklkdpcopfjmcaaGreatW.PrintMore
def uU (l h m a : Int) : Int × Int × Int × Int :=
  if ¬ sM l h ∨ ¬ uj m a ∨ l > h then (1, 0, 0, 0)
  else if m = 0 then (if yf l h a then (a, a, 0, a) else (1, 0, 0, 0))
  else if l + (a - l) % m > h - (h - a) % m then (1, 0, 0, 0)
  else if l + (a - l) % m = h - (h - a) % m then (l + (a - l) % m, l + (a - l) % m, 0, l + (a - l) % m)
  else (l + (a - l) % m, h - (h - a) % m, m, a)
def r9 (l h m a : Int) : Prop := uU l h m a = (l, h, m, a)
instance (l h m a : Int) : Decidable (r9 l h m a) := inferInstanceAs (Decidable (_ = _))
def Hf (l h m a v : Int) : Prop := r9 l h m a ∧ yf l h v ∧ yY m a v
instance (l h m a v : Int) : Decidable (Hf l h m a v) := inferInstanceAs (Decidable (_ ∧ _))
theorem DT : r9 1 0 0 0 := by
  unfold r9 uU; rw [if_pos (Or.inr (Or.inr (by decide)))]
theorem tY {l h m a : Int} (c : ¬ sM l h ∨ ¬ uj m a ∨ l > h) : uU l h m a = (1, 0, 0, 0) := by unfold uU; rw [if_pos c]
end Go.Proofs.YtklkdpcopfjmcaaGreat.Base
