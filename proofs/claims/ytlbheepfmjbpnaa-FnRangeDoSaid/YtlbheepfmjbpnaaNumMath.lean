/- Numbers of 32 bits, and what an operator makes of two of them: plain definitions and their laws. Conditions: none. -/
import Derived.Test.YtlbheepfmjbpnaaBase
namespace Go.Proofs.Ytlbheepfmjbpnaa.Base
set_option linter.unusedVariables false
set_option linter.unusedSimpArgs false
open Go.RowKit Go.Proofs.YtlbheepfmjbpnaaW.PrintWords Go.Proofs.YtlbheepfmjbpnaaW.PrintMore

/-- A number of 32 bits. -/
def NOk (v : Int) : Prop := -2147483648 ≤ v ∧ v ≤ 2147483647
instance (v : Int) : Decidable (NOk v) := inferInstanceAs (Decidable (_ ∧ _))

/-- What an operator makes, without bound. -/
def Exact (op a b : Int) : Int :=
  if op = 1 ∨ op = 11 then a + b
  else if op = 2 ∨ op = 12 then a - b
  else if op = 3 ∨ op = 13 then a * b
  else if op = 4 then Int.tdiv a b
  else if op = 5 then Int.tmod a b
  else if op = 6 then Go.bits .and .i64 a b
  else if op = 7 then Go.bits .or .i64 a b
  else if op = 8 then Go.bits .xor .i64 a b
  else if op = 9 then a * 2 ^ b.toNat
  else if op = 10 then a / 2 ^ b.toNat
  else 0

/-- What NumDo tells. -/
def NumDo (op a b : Int) : Int × Int :=
  if ¬ (1 ≤ op ∧ op ≤ 13) ∨ ¬ NOk a ∨ ¬ NOk b then (0, 0)
  else if (op = 4 ∨ op = 5) ∧ b = 0 then (0, 2)
  else if (op = 9 ∨ op = 10) ∧ (b < 0 ∨ b > 31) then (0, 3)
  else if 11 ≤ op then (wrap32 (Exact op a b), 0)
  else if NOk (Exact op a b) then (Exact op a b, 0) else (0, 1)

theorem pow_pos' (n : Nat) : 0 < (2 : Int) ^ n := Int.pow_pos (by decide)
theorem pow_le' {n m : Nat} (h : n ≤ m) : (2 : Int) ^ n ≤ 2 ^ m := by
  have := Nat.pow_le_pow_right (n := 2) (by omega) h
  have h : ((2 ^ n : Nat) : Int) ≤ ((2 ^ m : Nat) : Int) := by exact_mod_cast this
  simpa using h

theorem mul_in {a b : Int} {A B : Int} (ha : -A ≤ a) (ha' : a ≤ A) (hb : -B ≤ b) (hb' : b ≤ B) : -(A * B) ≤ a * b ∧ a * b ≤ A * B := by
  have hA : 0 ≤ A := by omega
  have hB : 0 ≤ B := by omega
  have h1 : (a.natAbs : Int) ≤ A := by omega
  have h2 : (b.natAbs : Int) ≤ B := by omega
  have h3 : ((a * b).natAbs : Int) ≤ A * B := by
    rw [Int.natAbs_mul]; push_cast
    exact Int.mul_le_mul h1 h2 (by omega) hA
  omega

theorem shl_in {a b : Int} (ha : NOk a) (h0 : 0 ≤ b) (h1 : b ≤ 31) : -4611686018427387904 ≤ a * 2 ^ b.toNat ∧ a * 2 ^ b.toNat ≤ 4611686018427387904 := by
  have p := pow_le' (n := b.toNat) (m := 31) (by omega)
  have q := pow_pos' b.toNat
  have e : (2 : Int) ^ 31 = 2147483648 := by decide
  rw [e] at p
  have := mul_in (a := a) (b := 2 ^ b.toNat) (A := 2147483648) (B := 2147483648) (by have := ha.1; omega) (by have := ha.2; omega) (by omega) (by omega)
  omega
theorem mul_in32 {a b : Int} (ha : NOk a) (hb : NOk b) : -4611686018427387904 ≤ a * b ∧ a * b ≤ 4611686018427387904 := by
  have := mul_in (a := a) (b := b) (A := 2147483648) (B := 2147483648) (by have := ha.1; omega) (by have := ha.2; omega) (by have := hb.1; omega) (by have := hb.2; omega)
  omega
theorem tdiv_in {a : Int} (b : Int) {A : Int} (h : -A ≤ a) (h' : a ≤ A) : -A ≤ Int.tdiv a b ∧ Int.tdiv a b ≤ A := by
  have h1 : (a.natAbs : Int) ≤ A := by omega
  have h2 : (Int.tdiv a b).natAbs ≤ a.natAbs := by
    rw [Int.natAbs_tdiv]; exact Nat.div_le_self _ _
  omega
theorem tmod_in {a : Int} (b : Int) {A : Int} (h : -A ≤ a) (h' : a ≤ A) : -A ≤ Int.tmod a b ∧ Int.tmod a b ≤ A := by
  have h2 : (Int.tmod a b).natAbs ≤ a.natAbs := by
    rw [Int.natAbs_tmod]; exact Nat.mod_le _ _
  omega
theorem shl_eq {a b : Int} (ha : NOk a) (h0 : 0 ≤ b) (h1 : b ≤ 31) : shl .i64 a b = a * 2 ^ b.toNat := by
  have := shl_in ha h0 h1
  unfold shl
  have e : min b.toNat IntKind.i64.bits = b.toNat := by simp only [IntKind.bits]; omega
  rw [e, i64_wrap, wrap64_id (by omega) (by omega)]
theorem shr_eq {a b : Int} (h0 : 0 ≤ b) (h1 : b ≤ 31) : shr .i64 a b = a / 2 ^ b.toNat := by
  unfold shr
  have e : min b.toNat IntKind.i64.bits = b.toNat := by simp only [IntKind.bits]; omega
  rw [e]
end Go.Proofs.Ytlbheepfmjbpnaa.Base
