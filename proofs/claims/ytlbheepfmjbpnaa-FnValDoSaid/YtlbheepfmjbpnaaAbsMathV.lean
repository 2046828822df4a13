/- Loops that scan a row, or fill one, place by place. Conditions: those in each law. -/
import Derived.Test.YtlbheepfmjbpnaaBaseV
namespace Go.Proofs.Ytlbheepfmjbpnaa.Base
set_option linter.unusedVariables false
set_option linter.unusedSimpArgs false
open Go.RowKit Go.Proofs.YtlbheepfmjbpnaaW.PrintWords Go.Proofs.YtlbheepfmjbpnaaW.PrintMore

def VN (a b c d : Int) : Prop := a = 1 ∧ b = 0 ∧ c = 0 ∧ d = 0
theorem vn_iff (a b c d : Int) : (a == 1 && (b == 0 && (c == 0 && (d == 0)))) = true ↔ VN a b c d := by
  simp [VN]
end Go.Proofs.Ytlbheepfmjbpnaa.Base
