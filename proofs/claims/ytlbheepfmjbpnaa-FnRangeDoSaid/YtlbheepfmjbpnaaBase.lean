/- Small words for answers that may lack: what a function tells, and how two steps join. Conditions: none. -/
import Derived.Test.YtlbheepfmjbpnaaZ0
namespace Go.Proofs.Ytlbheepfmjbpnaa.Base
set_option linter.unusedVariables false
set_option linter.unusedSimpArgs false
open Go.RowKit Go.Proofs.YtlbheepfmjbpnaaW.PrintWords Go.Proofs.YtlbheepfmjbpnaaW.PrintMore

/-- g tells something of which P holds. -/
def Tot {α : Type} (g : Option α) (P : α → Prop) : Prop := ∃ r, g = some r ∧ P r

theorem Tot.here {α : Type} {r : α} {P : α → Prop} (h : P r) : Tot (some r) P := ⟨r, rfl, h⟩
theorem Tot.bind {α β : Type} {g : Option α} {f : α → Option β} {P : β → Prop} (h : Tot g fun a => Tot (f a) P) : Tot (g.bind f) P := by
  obtain ⟨a, rfl, r, hr, hp⟩ := h
  exact ⟨r, hr, hp⟩
theorem Tot.then {α β : Type} {g : Option α} {f : α → Option β} {P : β → Prop} {Q : α → Prop} (h : Tot g Q) (k : ∀ a, Q a → Tot (f a) P) : Tot (g.bind f) P := by
  obtain ⟨a, rfl, hq⟩ := h
  exact k a hq
theorem Tot.ite {α : Type} {c : Prop} [Decidable c] {a b : Option α} {P : α → Prop} (h : c → Tot a P) (k : ¬ c → Tot b P) : Tot (if c then a else b) P := by
  by_cases hc : c
  · rw [if_pos hc]; exact h hc
  · rw [if_neg hc]; exact k hc
theorem Tot.mono {α : Type} {g : Option α} {P Q : α → Prop} (h : Tot g Q) (k : ∀ r, Q r → P r) : Tot g P := by
  obtain ⟨r, hr, hq⟩ := h
  exact ⟨r, hr, k r hq⟩
theorem Tot.eq {α : Type} {g : Option α} {r : α} (h : g = some r) : Tot g (fun x => x = r) := ⟨r, h, rfl⟩
theorem Tot.of {α : Type} {g : Option α} {r : α} {P : α → Prop} (h : g = some r) (p : P r) : Tot g P := ⟨r, h, p⟩
theorem Tot.out {α : Type} {g : Option α} {r : α} (h : Tot g (fun x => x = r)) : g = some r := by
  obtain ⟨_, h, rfl⟩ := h; exact h

theorem wrap64_id {x : Int} (h0 : -9223372036854775808 ≤ x) (h1 : x ≤ 9223372036854775807) : wrap64 x = x := by
  unfold wrap64; omega
theorem wrap32_id {x : Int} (h0 : -2147483648 ≤ x) (h1 : x ≤ 2147483647) : wrap32 x = x := by
  unfold wrap32; omega
theorem wrap64_in (x : Int) : -9223372036854775808 ≤ wrap64 x ∧ wrap64 x ≤ 9223372036854775807 := by
  unfold wrap64; omega
theorem wrap32_in (x : Int) : -2147483648 ≤ wrap32 x ∧ wrap32 x ≤ 2147483647 := by
  unfold wrap32; omega
theorem i64_wrap (x : Int) : IntKind.i64.wrap x = wrap64 x := by
  simp only [IntKind.wrap, IntKind.bits, IntKind.signed, wrap64]
  simp
  omega
theorem wrapu64_id {x : Int} (h0 : 0 ≤ x) (h1 : x ≤ 18446744073709551615) : IntKind.u64.wrap x = x := by
  simp only [IntKind.wrap, IntKind.bits, IntKind.signed]
  simp
  omega

theorem tmod_lt {a b : Int} (h : 0 < b) : Int.tmod a b < b := Int.tmod_lt_of_pos a h
theorem tmod_nonneg {a b : Int} (h : 0 ≤ a) : 0 ≤ Int.tmod a b := Int.tmod_nonneg b h
theorem tdiv_nonneg {a b : Int} (h : 0 ≤ a) (k : 0 ≤ b) : 0 ≤ Int.tdiv a b := Int.tdiv_nonneg h k
theorem tdiv_le {a b : Int} (h : 0 ≤ a) (k : 0 < b) : Int.tdiv a b ≤ a := by
  rw [Int.tdiv_eq_ediv_of_nonneg h]
  exact Int.ediv_le_self b h

theorem dcl {p q : Prop} [Decidable p] [Decidable q] (h : p ↔ q) : some (decide p) = some (decide q) := by simp only [decide_eq_decide.mpr h]
theorem dfl {p : Prop} [Decidable p] (h : ¬ p) : some false = some (decide p) := by simp only [h, decide_false]

/-- All of a list are bytes. -/
def Bytes (l : List Int) : Prop := ∀ x ∈ l, 0 ≤ x ∧ x ≤ 255
theorem Bytes.byte {l : List Int} (h : Bytes l) (i : Int) : 0 ≤ rd l i ∧ rd l i ≤ 255 := by
  unfold rd
  by_cases hi : i.toNat < l.length
  · rw [List.getD_eq_getElem?_getD, List.getElem?_eq_getElem hi]
    exact h _ (List.getElem_mem hi)
  · rw [List.getD_eq_getElem?_getD, List.getElem?_eq_none (by omega)]
    simp
theorem Bytes.take {l : List Int} (h : Bytes l) (n : Nat) : Bytes (l.take n) := fun x hx => h x (List.mem_of_mem_take hx)
theorem Bytes.of {l : List Int} (h : ∀ x ∈ l, (Lit.int .u8 x).wf = true) : Bytes l := fun x hx => by
  have := h x hx
  simp [Lit.wf, IntKind.min, IntKind.max, IntKind.signed, IntKind.bits] at this
  omega

/-- Bit by bit of two that are not below 0: as of natural numbers. -/
theorem bits_xor_nonneg {x y : Int} (hx : 0 ≤ x) (hx' : x < 9223372036854775808) (hy : 0 ≤ y) (hy' : y < 9223372036854775808) :
    Go.bits .xor .i64 x y = ((x.toNat ^^^ y.toNat : Nat) : Int) := by
  have hn : x.toNat ^^^ y.toNat < 2 ^ 63 := Nat.xor_lt_two_pow (by omega) (by omega)
  have e : (BitVec.ofInt 64 x ^^^ BitVec.ofInt 64 y).toNat = x.toNat ^^^ y.toNat := by
    rw [BitVec.toNat_xor, BitVec.toNat_ofInt, BitVec.toNat_ofInt]
    congr 1 <;> omega
  have : Go.bits .xor .i64 x y = wrap64 ((BitVec.ofInt 64 x ^^^ BitVec.ofInt 64 y).toNat : Int) := by rw [← i64_wrap]; rfl
  rw [this, e, wrap64_id (by omega) (by omega)]
theorem bits_xor_nonneg_in {x y : Int} (hx : 0 ≤ x) (hx' : x < 9223372036854775808) (hy : 0 ≤ y) (hy' : y < 9223372036854775808) :
    0 ≤ Go.bits .xor .i64 x y := by
  rw [bits_xor_nonneg hx hx' hy hy']; omega
end Go.Proofs.Ytlbheepfmjbpnaa.Base
