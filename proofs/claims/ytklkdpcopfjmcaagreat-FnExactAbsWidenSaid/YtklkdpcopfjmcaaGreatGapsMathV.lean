/- Gaps: what a matrix of gaps is, and where its entries lie. Conditions: those in each law. -/
import Derived.Test.YtklkdpcopfjmcaaGreatBaseV
namespace Go.Proofs.YtklkdpcopfjmcaaGreat.Base
set_option linter.unusedVariables false
set_option linter.unusedSimpArgs false
open Go.RowKit Go.Proofs.YtklkdpcopfjmcaaGreatW.PrintWords Go.Proofs.YtklkdpcopfjmcaaGreatW.PrintMore
def EM (x : Int) : Prop := -1099511627776 ≤ x ∧ x ≤ 1099511627776
def yg (n : Int) (d : List Int) : Prop := 0 ≤ n ∧ n ≤ 12 ∧ (d.length : Int) = (n + 1) * (n + 1) ∧
  (∀ p : Int, 0 ≤ p → p < (d.length : Int) → EM (rd d p)) ∧ (∀ i : Int, 0 ≤ i → i ≤ n → rd d (i * (n + 1) + i) = 0)
theorem twelve {n : Int} (h0 : 0 ≤ n) (h : n ≤ 12) : n = 0 ∨ n = 1 ∨ n = 2 ∨ n = 3 ∨ n = 4 ∨ n = 5 ∨ n = 6 ∨ n = 7 ∨ n = 8 ∨ n = 9 ∨ n = 10 ∨ n = 11 ∨ n = 12 := by omega
theorem wu {n i j : Int} (h0 : 0 ≤ n) (h : n ≤ 12) (hi0 : 0 ≤ i) (hi : i ≤ n) (hj0 : 0 ≤ j) (hj : j ≤ n) :
    0 ≤ i * (n + 1) + j ∧ i * (n + 1) + j < (n + 1) * (n + 1) ∧ i * (n + 1) + j < 169 := by
  rcases twelve h0 h with rfl | rfl | rfl | rfl | rfl | rfl | rfl | rfl | rfl | rfl | rfl | rfl | rfl <;> omega
theorem ER {n i j : Int} (h0 : 0 ≤ n) (h : n ≤ 12) (hi0 : 0 ≤ i) (hi : i ≤ n) (hj0 : 0 ≤ j) (hj : j ≤ n) :
    wrap64 (wrap64 (i * wrap64 (n + 1)) + j) = i * (n + 1) + j := by
  have := wu h0 h hi0 hi hj0 hj
  have e : wrap64 (n + 1) = n + 1 := aV (by omega) (by omega)
  rw [e, aV (x := i * (n + 1)) (by rcases twelve h0 h with rfl | rfl | rfl | rfl | rfl | rfl | rfl | rfl | rfl | rfl | rfl | rfl | rfl <;> omega) (by omega), aV (by omega) (by omega)]
theorem Fa {n p : Int} (h0 : 0 ≤ n) (h : n ≤ 12) (hp0 : 0 ≤ p) (hp : p < (n + 1) * (n + 1)) : ∃ i j : Int, 0 ≤ i ∧ i ≤ n ∧ 0 ≤ j ∧ j ≤ n ∧ p = i * (n + 1) + j := by
  refine ⟨p / (n + 1), p % (n + 1), ?_⟩
  rcases twelve h0 h with rfl | rfl | rfl | rfl | rfl | rfl | rfl | rfl | rfl | rfl | rfl | rfl | rfl <;> omega
theorem GK {n : Int} (h0 : 0 ≤ n) (h : n ≤ 12) : wrap64 (wrap64 (n + 1) * wrap64 (n + 1)) = (n + 1) * (n + 1) := by
  rw [aV (x := n + 1) (by omega) (by omega)]
  have := wu h0 h h0 (Int.le_refl n) h0 (Int.le_refl n)
  have e : (n + 1) * (n + 1) = n * (n + 1) + n + 1 := by rw [Int.add_mul n 1, Int.one_mul]; omega
  exact aV (by omega) (by omega)
def Ag (n : Int) (d : List Int) (i j : Int) : Int := rd d (i * (n + 1) + j)
theorem yg.Fu {n : Int} {d : List Int} (h0 : 0 ≤ n) (h : n ≤ 12) (hl : (d.length : Int) = (n + 1) * (n + 1)) :
    yg n d ↔ ∀ i j : Int, 0 ≤ i → i ≤ n → 0 ≤ j → j ≤ n → EM (Ag n d i j) ∧ (i = j → Ag n d i j = 0) := by
  constructor
  · intro ⟨_, _, _, a, b⟩ i j hi hi' hj hj'
    have := wu h0 h hi hi' hj hj'
    exact ⟨a _ (by omega) (by omega), fun e => by subst e; exact b i hi hi'⟩
  · intro H
    refine ⟨h0, h, hl, fun p hp0 hp => ?_, fun i hi hi' => (H i i hi hi' hi hi').2 rfl⟩
    obtain ⟨i, j, a, b, c, e, rfl⟩ := Fa h0 h hp0 (by omega)
    exact (H i j a b c e).1
theorem DV (x acc : List Int) (m : Nat) (hm : m < x.length) (hl : acc.length = x.length) (h : ∀ j, j < m → acc[j]? = x[j]?) :
    (acc.set m (rd x (m : Int))).length = x.length ∧ ∀ j, j < m + 1 → (acc.set m (rd x (m : Int)))[j]? = x[j]? := by
  refine ⟨by simpa using hl, fun j hj => ?_⟩
  by_cases e : j = m
  · subst e
    rw [List.getElem?_set_self (by omega), List.getElem?_eq_getElem hm]
    simp [rd, List.getD_eq_getElem?_getD, List.getElem?_eq_getElem hm]
  · rw [List.getElem?_set_ne (by omega)]
    exact h j (by omega)
end Go.Proofs.YtklkdpcopfjmcaaGreat.Base
