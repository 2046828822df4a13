/- And, or and xor of two numbers of 32 bits, bit by bit and as Go tells them. Conditions: the numbers are of 32 bits. -/
import Derived.Test.YtklkdpcopfjmcaaNumMathV
namespace Go.Proofs.Ytklkdpcopfjmcaa.Base
set_option linter.unusedVariables false
set_option linter.unusedSimpArgs false
open Go.RowKit Go.Proofs.YtklkdpcopfjmcaaW.PrintWords Go.Proofs.YtklkdpcopfjmcaaW.PrintMore

end Go.Proofs.Ytklkdpcopfjmcaa.Base
