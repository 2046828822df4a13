/- Numbers of 32 bits, and what an operator makes of two of them: plain definitions and their laws. Conditions: none. -/
import Derived.Test.YtklkdpcopfjmcaaGreatBaseV
namespace Go.Proofs.YtklkdpcopfjmcaaGreat.Base
set_option linter.unusedVariables false
set_option linter.unusedSimpArgs false
open Go.RowKit Go.Proofs.YtklkdpcopfjmcaaGreatW.PrintWords Go.Proofs.YtklkdpcopfjmcaaGreatW.PrintMore
def uk (v : Int) : Prop := -2147483648 ≤ v ∧ v ≤ 2147483647
instance (v : Int) : Decidable (uk v) := inferInstanceAs (Decidable (_ ∧ _))
end Go.Proofs.YtklkdpcopfjmcaaGreat.Base
