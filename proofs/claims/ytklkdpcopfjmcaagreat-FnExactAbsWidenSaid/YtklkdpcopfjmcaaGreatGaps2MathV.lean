/- Marks in a row of numbers; a gap put into a matrix. Conditions: those in each law. -/
import Derived.Test.YtklkdpcopfjmcaaGreatGapsMathV
namespace Go.Proofs.YtklkdpcopfjmcaaGreat.Base
set_option linter.unusedVariables false
set_option linter.unusedSimpArgs false
open Go.RowKit Go.Proofs.YtklkdpcopfjmcaaGreatW.PrintWords Go.Proofs.YtklkdpcopfjmcaaGreatW.PrintMore
theorem BH (x : List Int) (i : Nat) (v : Int) (p : Int) (h : i < x.length) (hp : 0 ≤ p) : rd (x.set i v) p = if p = (i : Int) then v else rd x p := by
  unfold rd
  rw [List.getD_eq_getElem?_getD, List.getD_eq_getElem?_getD]
  by_cases e : p = (i : Int)
  · have e2 : p.toNat = i := by omega
    rw [if_pos e, e2, List.getElem?_set_self h]; rfl
  · rw [if_neg e, List.getElem?_set_ne (by omega)]
theorem Di {n : Int} {d : List Int} (h0 : 0 ≤ n) (h : n ≤ 12) (hl : (d.length : Int) = (n + 1) * (n + 1)) : d.length ≤ 169 := by
  rcases twelve h0 h with rfl | rfl | rfl | rfl | rfl | rfl | rfl | rfl | rfl | rfl | rfl | rfl | rfl <;> omega
end Go.Proofs.YtklkdpcopfjmcaaGreat.Base
