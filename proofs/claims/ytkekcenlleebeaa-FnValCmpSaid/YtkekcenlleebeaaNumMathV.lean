/- Numbers of 32 bits, and what an operator makes of two of them: plain definitions and their laws. Conditions: none. -/
import Derived.Test.YtkekcenlleebeaaBaseV
namespace Go.Proofs.Ytkekcenlleebeaa.Base
set_option linter.unusedVariables false
set_option linter.unusedSimpArgs false
open Go.RowKit Go.Proofs.YtkekcenlleebeaaW.PrintWords Go.Proofs.YtkekcenlleebeaaW.PrintMore

def NOk (v : Int) : Prop := -2147483648 ≤ v ∧ v ≤ 2147483647
instance (v : Int) : Decidable (NOk v) := inferInstanceAs (Decidable (_ ∧ _))

theorem pow_le' {n m : Nat} (h : n ≤ m) : (2 : Int) ^ n ≤ 2 ^ m := by
  have := Nat.pow_le_pow_right (n := 2) (by omega) h
  have h : ((2 ^ n : Nat) : Int) ≤ ((2 ^ m : Nat) : Int) := by exact_mod_cast this
  simpa using h

end Go.Proofs.Ytkekcenlleebeaa.Base
