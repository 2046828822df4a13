/- Gaps: what a matrix of gaps is, and where its entries lie. Conditions: those in each law. -/
import Derived.Test.YtklkdpcopfjmcaaGreatBaseV
namespace Go.Proofs.YtklkdpcopfjmcaaGreat.Base
set_option linter.unusedVariables false
set_option linter.unusedSimpArgs false
open Go.RowKit Go.Proofs.YtklkdpcopfjmcaaGreatW.PrintWords Go.Proofs.YtklkdpcopfjmcaaGreatW.PrintMore

def DIn (x : Int) : Prop := -1099511627776 ≤ x ∧ x ≤ 1099511627776
def GOk (n : Int) (d : List Int) : Prop := 0 ≤ n ∧ n ≤ 12 ∧ (d.length : Int) = (n + 1) * (n + 1) ∧
  (∀ p : Int, 0 ≤ p → p < (d.length : Int) → DIn (rd d p)) ∧ (∀ i : Int, 0 ≤ i → i ≤ n → rd d (i * (n + 1) + i) = 0)

theorem twelve {n : Int} (h0 : 0 ≤ n) (h : n ≤ 12) : n = 0 ∨ n = 1 ∨ n = 2 ∨ n = 3 ∨ n = 4 ∨ n = 5 ∨ n = 6 ∨ n = 7 ∨ n = 8 ∨ n = 9 ∨ n = 10 ∨ n = 11 ∨ n = 12 := by omega
theorem idx_in {n i j : Int} (h0 : 0 ≤ n) (h : n ≤ 12) (hi0 : 0 ≤ i) (hi : i ≤ n) (hj0 : 0 ≤ j) (hj : j ≤ n) :
    0 ≤ i * (n + 1) + j ∧ i * (n + 1) + j < (n + 1) * (n + 1) ∧ i * (n + 1) + j < 169 := by
  rcases twelve h0 h with rfl | rfl | rfl | rfl | rfl | rfl | rfl | rfl | rfl | rfl | rfl | rfl | rfl <;> omega
theorem idx_w {n i j : Int} (h0 : 0 ≤ n) (h : n ≤ 12) (hi0 : 0 ≤ i) (hi : i ≤ n) (hj0 : 0 ≤ j) (hj : j ≤ n) :
    wrap64 (wrap64 (i * wrap64 (n + 1)) + j) = i * (n + 1) + j := by
  have := idx_in h0 h hi0 hi hj0 hj
  have e : wrap64 (n + 1) = n + 1 := wrap64_id (by omega) (by omega)
  rw [e, wrap64_id (x := i * (n + 1)) (by rcases twelve h0 h with rfl | rfl | rfl | rfl | rfl | rfl | rfl | rfl | rfl | rfl | rfl | rfl | rfl <;> omega) (by omega), wrap64_id (by omega) (by omega)]
theorem idx_of {n p : Int} (h0 : 0 ≤ n) (h : n ≤ 12) (hp0 : 0 ≤ p) (hp : p < (n + 1) * (n + 1)) : ∃ i j : Int, 0 ≤ i ∧ i ≤ n ∧ 0 ≤ j ∧ j ≤ n ∧ p = i * (n + 1) + j := by
  refine ⟨p / (n + 1), p % (n + 1), ?_⟩
  rcases twelve h0 h with rfl | rfl | rfl | rfl | rfl | rfl | rfl | rfl | rfl | rfl | rfl | rfl | rfl <;> omega
theorem sq_w {n : Int} (h0 : 0 ≤ n) (h : n ≤ 12) : wrap64 (wrap64 (n + 1) * wrap64 (n + 1)) = (n + 1) * (n + 1) := by
  rw [wrap64_id (x := n + 1) (by omega) (by omega)]
  have := idx_in h0 h h0 (Int.le_refl n) h0 (Int.le_refl n)
  have e : (n + 1) * (n + 1) = n * (n + 1) + n + 1 := by rw [Int.add_mul n 1, Int.one_mul]; omega
  exact wrap64_id (by omega) (by omega)
def gat (n : Int) (d : List Int) (i j : Int) : Int := rd d (i * (n + 1) + j)
theorem GOk.of_all {n : Int} {d : List Int} (h0 : 0 ≤ n) (h : n ≤ 12) (hl : (d.length : Int) = (n + 1) * (n + 1)) :
    GOk n d ↔ ∀ i j : Int, 0 ≤ i → i ≤ n → 0 ≤ j → j ≤ n → DIn (gat n d i j) ∧ (i = j → gat n d i j = 0) := by
  constructor
  · intro ⟨_, _, _, a, b⟩ i j hi hi' hj hj'
    have := idx_in h0 h hi hi' hj hj'
    exact ⟨a _ (by omega) (by omega), fun e => by subst e; exact b i hi hi'⟩
  · intro H
    refine ⟨h0, h, hl, fun p hp0 hp => ?_, fun i hi hi' => (H i i hi hi' hi hi').2 rfl⟩
    obtain ⟨i, j, a, b, c, e, rfl⟩ := idx_of h0 h hp0 (by omega)
    exact (H i j a b c e).1
theorem set_same (x acc : List Int) (m : Nat) (hm : m < x.length) (hl : acc.length = x.length) (h : ∀ j, j < m → acc[j]? = x[j]?) :
    (acc.set m (rd x (m : Int))).length = x.length ∧ ∀ j, j < m + 1 → (acc.set m (rd x (m : Int)))[j]? = x[j]? := by
  refine ⟨by simpa using hl, fun j hj => ?_⟩
  by_cases e : j = m
  · subst e
    rw [List.getElem?_set_self (by omega), List.getElem?_eq_getElem hm]
    simp [rd, List.getD_eq_getElem?_getD, List.getElem?_eq_getElem hm]
  · rw [List.getElem?_set_ne (by omega)]
    exact h j (by omega)
end Go.Proofs.YtklkdpcopfjmcaaGreat.Base
