/- Vals, ranges with rests: plain definitions and their laws. Conditions: those in each law. -/
import Derived.Test.YtklkdpcopfjmcaaGreatRestMathV
namespace Go.Proofs.YtklkdpcopfjmcaaGreat.Base
set_option linter.unusedVariables false
set_option linter.unusedSimpArgs false
open Go.RowKit Go.Proofs.YtklkdpcopfjmcaaGreatW.PrintWords Go.Proofs.YtklkdpcopfjmcaaGreatW.PrintMore

def VMake (l h m a : Int) : Int × Int × Int × Int :=
  if ¬ ROk l h ∨ ¬ SOk m a ∨ l > h then (1, 0, 0, 0)
  else if m = 0 then (if RHas l h a then (a, a, 0, a) else (1, 0, 0, 0))
  else if l + (a - l) % m > h - (h - a) % m then (1, 0, 0, 0)
  else if l + (a - l) % m = h - (h - a) % m then (l + (a - l) % m, l + (a - l) % m, 0, l + (a - l) % m)
  else (l + (a - l) % m, h - (h - a) % m, m, a)
def VOk (l h m a : Int) : Prop := VMake l h m a = (l, h, m, a)
instance (l h m a : Int) : Decidable (VOk l h m a) := inferInstanceAs (Decidable (_ = _))
def VHas (l h m a v : Int) : Prop := VOk l h m a ∧ RHas l h v ∧ SHas m a v
instance (l h m a v : Int) : Decidable (VHas l h m a v) := inferInstanceAs (Decidable (_ ∧ _))

theorem vok_none : VOk 1 0 0 0 := by
  unfold VOk VMake; rw [if_pos (Or.inr (Or.inr (by decide)))]
theorem VMake_none {l h m a : Int} (c : ¬ ROk l h ∨ ¬ SOk m a ∨ l > h) : VMake l h m a = (1, 0, 0, 0) := by unfold VMake; rw [if_pos c]

end Go.Proofs.YtklkdpcopfjmcaaGreat.Base
