/- And, or and xor of two numbers of 32 bits, bit by bit and as Go tells them. Conditions: the numbers are of 32 bits. -/
import Derived.Test.YtklkdpcopfjmcaaGreatNumMathV
namespace Go.Proofs.YtklkdpcopfjmcaaGreat.Base
set_option linter.unusedVariables false
set_option linter.unusedSimpArgs false
open Go.RowKit Go.Proofs.YtklkdpcopfjmcaaGreatW.PrintWords Go.Proofs.YtklkdpcopfjmcaaGreatW.PrintMore
def low (a : Int) : Nat := (a % 4294967296).toNat
end Go.Proofs.YtklkdpcopfjmcaaGreat.Base
