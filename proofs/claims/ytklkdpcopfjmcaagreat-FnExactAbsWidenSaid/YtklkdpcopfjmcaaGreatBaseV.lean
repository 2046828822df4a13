/- Small words for answers that may lack: what a function tells, and how two steps join. Conditions: none. -/
import Derived.Test.YtklkdpcopfjmcaaGreatZ0V
namespace Go.Proofs.YtklkdpcopfjmcaaGreat.Base
set_option linter.unusedVariables false
set_option linter.unusedSimpArgs false
open Go.RowKit Go.Proofs.YtklkdpcopfjmcaaGreatW.PrintWords Go.Proofs.YtklkdpcopfjmcaaGreatW.PrintMore
def Tot {α : Type} (g : Option α) (P : α → Prop) : Prop := ∃ r, g = some r ∧ P r
theorem Tot.here {α : Type} {r : α} {P : α → Prop} (h : P r) : Tot (some r) P := ⟨r, rfl, h⟩
theorem Tot.bind {α β : Type} {g : Option α} {f : α → Option β} {P : β → Prop} (h : Tot g fun a => Tot (f a) P) : Tot (g.bind f) P := by
  obtain ⟨a, rfl, r, hr, hp⟩ := h
  exact ⟨r, hr, hp⟩
theorem Tot.then {α β : Type} {g : Option α} {f : α → Option β} {P : β → Prop} {Q : α → Prop} (h : Tot g Q) (k : ∀ a, Q a → Tot (f a) P) : Tot (g.bind f) P := by
  obtain ⟨a, rfl, hq⟩ := h
  exact k a hq
theorem Tot.ite {α : Type} {c : Prop} [Decidable c] {a b : Option α} {P : α → Prop} (h : c → Tot a P) (k : ¬ c → Tot b P) : Tot (if c then a else b) P := by
  by_cases hc : c
  · rw [if_pos hc]; exact h hc
  · rw [if_neg hc]; exact k hc
theorem Tot.mono {α : Type} {g : Option α} {P Q : α → Prop} (h : Tot g Q) (k : ∀ r, Q r → P r) : Tot g P := by
  obtain ⟨r, hr, hq⟩ := h
  exact ⟨r, hr, k r hq⟩
theorem Tot.of {α : Type} {g : Option α} {r : α} {P : α → Prop} (h : g = some r) (p : P r) : Tot g P := ⟨r, h, p⟩
theorem Tot.o {α : Type} {g : Option α} {r : α} (h : Tot g (fun x => x = r)) : g = some r := by
  obtain ⟨_, h, rfl⟩ := h; exact h
theorem aV {x : Int} (h0 : -9223372036854775808 ≤ x) (h1 : x ≤ 9223372036854775807) : wrap64 x = x := by
  unfold wrap64; omega
theorem EI {a b : Int} (h : 0 < b) : Int.tmod a b < b := Int.tmod_lt_of_pos a h
theorem tmod_nonneg {a b : Int} (h : 0 ≤ a) : 0 ≤ Int.tmod a b := Int.tmod_nonneg b h
theorem FC {p q : Prop} [Decidable p] [Decidable q] (h : p ↔ q) : some (decide p) = some (decide q) := by simp only [decide_eq_decide.mpr h]
theorem F6 {p : Prop} [Decidable p] (h : ¬ p) : some false = some (decide p) := by simp only [h, decide_false]
def Bytes (l : List Int) : Prop := ∀ x ∈ l, 0 ≤ x ∧ x ≤ 255
theorem Bytes.take {l : List Int} (h : Bytes l) (n : Nat) : Bytes (l.take n) := fun x hx => h x (List.mem_of_mem_take hx)
theorem Bytes.of {l : List Int} (h : ∀ x ∈ l, (Lit.int .u8 x).wf = true) : Bytes l := fun x hx => by
  have := h x hx
  simp [Lit.wf, IntKind.min, IntKind.max, IntKind.signed, IntKind.bits] at this
  omega
end Go.Proofs.YtklkdpcopfjmcaaGreat.Base
