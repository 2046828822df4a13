/- Marks in a row of numbers; a gap put into a matrix. Conditions: those in each law. -/
import Derived.Test.YtklkdpcopfjmcaaGapsMathV
namespace Go.Proofs.Ytklkdpcopfjmcaa.Base
set_option linter.unusedVariables false
set_option linter.unusedSimpArgs false
open Go.RowKit Go.Proofs.YtklkdpcopfjmcaaW.PrintWords Go.Proofs.YtklkdpcopfjmcaaW.PrintMore

theorem rd_set (x : List Int) (i : Nat) (v : Int) (p : Int) (h : i < x.length) (hp : 0 ≤ p) : rd (x.set i v) p = if p = (i : Int) then v else rd x p := by
  unfold rd
  rw [List.getD_eq_getElem?_getD, List.getD_eq_getElem?_getD]
  by_cases e : p = (i : Int)
  · have e2 : p.toNat = i := by omega
    rw [if_pos e, e2, List.getElem?_set_self h]; rfl
  · rw [if_neg e, List.getElem?_set_ne (by omega)]
theorem set_rd (x : List Int) (i : Nat) (h : i < x.length) : x.set i (rd x (i : Int)) = x := by
  apply List.ext_getElem?
  intro j
  by_cases e : j = i
  · subst e
    rw [List.getElem?_set_self h, List.getElem?_eq_getElem h]
    simp [rd, List.getD_eq_getElem?_getD, List.getElem?_eq_getElem h]
  · rw [List.getElem?_set_ne (by omega)]
def gput (n : Int) (d : List Int) (i j v : Int) : List Int := d.set (i * (n + 1) + j).toNat v
theorem gput_len (n : Int) (d : List Int) (i j v : Int) : (gput n d i j v).length = d.length := List.length_set
theorem len_small {n : Int} {d : List Int} (h0 : 0 ≤ n) (h : n ≤ 12) (hl : (d.length : Int) = (n + 1) * (n + 1)) : d.length ≤ 169 := by
  rcases twelve h0 h with rfl | rfl | rfl | rfl | rfl | rfl | rfl | rfl | rfl | rfl | rfl | rfl | rfl <;> omega
theorem gat_put {n : Int} {d : List Int} {i j v i' j' : Int} (h0 : 0 ≤ n) (h : n ≤ 12) (hl : (d.length : Int) = (n + 1) * (n + 1)) (hi0 : 0 ≤ i) (hi : i ≤ n) (hj0 : 0 ≤ j) (hj : j ≤ n)
    (hi0' : 0 ≤ i') (hi' : i' ≤ n) (hj0' : 0 ≤ j') (hj' : j' ≤ n) : gat n (gput n d i j v) i' j' = if i' = i ∧ j' = j then v else gat n d i' j' := by
  have a := idx_in h0 h hi0 hi hj0 hj
  have b := idx_in h0 h hi0' hi' hj0' hj'
  unfold gat gput
  rw [rd_set _ _ _ _ (by omega) (by omega)]
  by_cases e : i' = i ∧ j' = j
  · obtain ⟨rfl, rfl⟩ := e
    rw [if_pos (by omega), if_pos ⟨rfl, rfl⟩]
  · rw [if_neg e, if_neg (fun q => e (idx_inj h0 h hi0' hi' hj0' hj' hi0 hi hj0 hj (by omega)))]
end Go.Proofs.Ytklkdpcopfjmcaa.Base
