/- Loops that scan a row, or fill one, place by place. Conditions: those in each law. -/
import Derived.Test.YtklkdpcopfjmcaaGreatBaseV
namespace Go.Proofs.YtklkdpcopfjmcaaGreat.Base
set_option linter.unusedVariables false
set_option linter.unusedSimpArgs false
open Go.RowKit Go.Proofs.YtklkdpcopfjmcaaGreatW.PrintWords Go.Proofs.YtklkdpcopfjmcaaGreatW.PrintMore
theorem scan {g : Nat → Int → Option Bool} {n : Int} {P : Int → Prop} {Q : Prop} (K : Nat)
    (step : ∀ (k : Nat) (i : Int) (R : Bool → Prop), K ≤ k → 0 ≤ i → i < n → (P i → Tot (g k (i + 1)) R) → (¬ P i → R false) → Tot (g (k + 1) i) R)
    (fin : ∀ k : Nat, K ≤ k → Tot (g (k + 1) n) fun b => b = true ↔ Q) : ∀ (m k : Nat) (i : Int), (n - i).toNat = m → 0 ≤ i → i ≤ n → K + m < k →
    Tot (g k i) fun b => b = true ↔ (∀ j : Int, i ≤ j → j < n → P j) ∧ Q := by
  intro m
  induction m with
  | zero =>
    intro k i hm h0 h1 hk
    obtain ⟨k, rfl⟩ : ∃ j, k = j + 1 := ⟨k - 1, by omega⟩
    have e : i = n := by omega
    subst e
    exact (fin k (by omega)).mono fun b hb => hb.trans ⟨fun q => ⟨fun j a b => absurd a (by omega), q⟩, fun q => q.2⟩
  | succ m ih =>
    intro k i hm h0 h1 hk
    obtain ⟨k, rfl⟩ : ∃ j, k = j + 1 := ⟨k - 1, by omega⟩
    refine step k i _ (by omega) h0 (by omega) (fun p => ?_) (fun p => ⟨fun f => (nomatch f), fun q => absurd (q.1 i (by omega) (by omega)) p⟩)
    refine (ih k (i + 1) (by omega) (by omega) (by omega) (by omega)).mono fun b hb => hb.trans ⟨fun q => ⟨fun j a c => ?_, q.2⟩, fun q => ⟨fun j a c => q.1 j (by omega) c, q.2⟩⟩
    by_cases e : j = i
    · subst e; exact p
    · exact q.1 j (by omega) c
theorem BU {β : Type} {g : Nat → Int → Option β} {n : Int} {r : β} (K : Nat) (step : ∀ (k : Nat) (i : Int), K ≤ k → 0 ≤ i → i < n → g (k + 1) i = g k (i + 1)) (fin : ∀ k : Nat, K ≤ k → g (k + 1) n = some r) :
    ∀ (m k : Nat) (i : Int), (n - i).toNat = m → 0 ≤ i → i ≤ n → K + m < k → g k i = some r := by
  intro m
  induction m with
  | zero =>
    intro k i hm h0 h1 hk
    obtain ⟨k, rfl⟩ : ∃ j, k = j + 1 := ⟨k - 1, by omega⟩
    have e : i = n := by omega
    subst e
    exact fin k (by omega)
  | succ m ih =>
    intro k i hm h0 h1 hk
    obtain ⟨k, rfl⟩ : ∃ j, k = j + 1 := ⟨k - 1, by omega⟩
    rw [step k i (by omega) h0 (by omega)]
    exact ih k (i + 1) (by omega) (by omega) (by omega) (by omega)
theorem fill {β : Type} {g : Nat → List β → Int → Option (List β)} (t : List β) (y : Int → β) (K : Nat) (hy : ∀ i : Int, 0 ≤ i → i < (t.length : Int) → t[i.toNat]? = some (y i))
    (step : ∀ (k : Nat) (acc : List β) (i : Int), K ≤ k → 0 ≤ i → i < (t.length : Int) → acc.length = t.length → g (k + 1) acc i = g k (acc.set i.toNat (y i)) (i + 1))
    (fin : ∀ (k : Nat) (acc : List β), K ≤ k → g (k + 1) acc (t.length : Int) = some acc) : ∀ (m k : Nat) (i : Int) (acc : List β), ((t.length : Int) - i).toNat = m → 0 ≤ i → i ≤ (t.length : Int) → K + m < k → acc.length = t.length →
    (∀ j : Nat, j < i.toNat → acc[j]? = t[j]?) → g k acc i = some t := by
  intro m
  induction m with
  | zero =>
    intro k i acc hm h0 h1 hk hl he
    obtain ⟨k, rfl⟩ : ∃ j, k = j + 1 := ⟨k - 1, by omega⟩
    have e : i = (t.length : Int) := by omega
    subst e
    rw [fin k acc (by omega)]
    congr 1
    apply List.ext_getElem?
    intro j
    by_cases c : j < t.length
    · exact he j (by omega)
    · rw [List.getElem?_eq_none (by omega), List.getElem?_eq_none (by omega)]
  | succ m ih =>
    intro k i acc hm h0 h1 hk hl he
    obtain ⟨k, rfl⟩ : ∃ j, k = j + 1 := ⟨k - 1, by omega⟩
    rw [step k acc i (by omega) h0 (by omega) hl]
    refine ih k (i + 1) _ (by omega) (by omega) (by omega) (by omega) (by rw [List.length_set]; exact hl) fun j hj => ?_
    by_cases e : j = i.toNat
    · subst e
      rw [List.getElem?_set_self (by omega), hy i h0 (by omega)]
    · rw [List.getElem?_set_ne (by omega)]
      exact he j (by omega)
theorem qY {α : Type} (l : List α) (z : α) (P : α → Prop) : (∀ i : Int, 0 ≤ i → i < (l.length : Int) → P (l.getD i.toNat z)) ↔ ∀ x ∈ l, P x := by
  constructor
  · intro h x hx
    obtain ⟨j, hj, rfl⟩ := List.getElem_of_mem hx
    have := h (j : Int) (by omega) (by omega)
    rw [List.getD_eq_getElem?_getD, Int.toNat_natCast, List.getElem?_eq_getElem hj] at this
    exact this
  · intro h i h0 h1
    have hj : i.toNat < l.length := by omega
    rw [List.getD_eq_getElem?_getD, List.getElem?_eq_getElem hj]
    exact h _ (List.getElem_mem hj)
def Asc (x : List Int) : Prop := ∀ i : Int, 0 ≤ i → i < (x.length : Int) → 0 ≤ rd x i ∧ (0 < i → rd x (i - 1) < rd x i)
theorem ED (x : List Int) : Asc x ↔ ∀ i : Int, 0 ≤ i → i < (x.length : Int) → (if i = 0 then -1 else rd x (i - 1)) < rd x i := by
  constructor
  · intro h i h0 h1
    obtain ⟨a, b⟩ := h i h0 h1
    by_cases e : i = 0
    · rw [if_pos e]; omega
    · rw [if_neg e]; exact b (by omega)
  · intro h
    have pos : ∀ j : Nat, (j : Int) < (x.length : Int) → 0 ≤ rd x (j : Int) := by
      intro j
      induction j with
      | zero =>
        intro hj
        have := h 0 (by omega) hj
        rw [if_pos rfl] at this
        show 0 ≤ rd x 0
        omega
      | succ j ih =>
        intro hj
        have a := ih (by omega)
        have := h ((j + 1 : Nat) : Int) (by omega) hj
        rw [if_neg (by omega), show ((j + 1 : Nat) : Int) - 1 = (j : Int) by omega] at this
        omega
    intro i h0 h1
    have := pos i.toNat (by omega)
    rw [Int.toNat_of_nonneg h0] at this
    refine ⟨this, fun hi => ?_⟩
    have := h i h0 h1
    rw [if_neg (by omega)] at this
    exact this
def VN (a b c d : Int) : Prop := a = 1 ∧ b = 0 ∧ c = 0 ∧ d = 0
theorem rX (a b c d : Int) : (a == 1 && (b == 0 && (c == 0 && (d == 0)))) = true ↔ VN a b c d := by
  simp [VN]
theorem yJ {b b' : Bool} {p : Prop} (h : b = true ↔ p) (h' : b' = true ↔ p) : b = b' := by
  cases b <;> cases b' <;> simp_all
end Go.Proofs.YtklkdpcopfjmcaaGreat.Base
