/- And, or and xor of two numbers of 32 bits, bit by bit and as Go tells them. Conditions: the numbers are of 32 bits. -/
import Derived.Test.YtlbheepfmjbpnaaNumMath
namespace Go.Proofs.Ytlbheepfmjbpnaa.Base
set_option linter.unusedVariables false
set_option linter.unusedSimpArgs false
open Go.RowKit Go.Proofs.YtlbheepfmjbpnaaW.PrintWords Go.Proofs.YtlbheepfmjbpnaaW.PrintMore

/-- A number's 32 bits, as a natural number. -/
def low (a : Int) : Nat := (a % 4294967296).toNat
theorem low_lt (a : Int) : low a < 2 ^ 32 := by unfold low; omega

theorem sign_back (z : BitVec 32) : wrap64 ((z.signExtend 64).toNat : Int) = wrap32 (z.toNat : Int) := by
  have e : z.signExtend 64 = BitVec.ofInt 64 z.toInt := rfl
  have h : (z.toNat : Int) < 4294967296 := by have := z.isLt; omega
  rw [e, BitVec.toNat_ofInt, BitVec.toInt_eq_toNat_bmod]
  unfold wrap64 wrap32
  simp only [Int.bmod_def]
  omega
theorem ofInt_sign {a : Int} (ha : NOk a) : BitVec.ofInt 64 a = (BitVec.ofInt 32 a).signExtend 64 := by
  have e : (BitVec.ofInt 32 a).signExtend 64 = BitVec.ofInt 64 (BitVec.ofInt 32 a).toInt := rfl
  have h : (BitVec.ofInt 32 a).toInt = a := by
    rw [BitVec.toInt_ofInt]
    unfold NOk at ha
    simp only [Int.bmod_def]
    omega
  rw [e, h]
theorem low_bv (a : Int) : (BitVec.ofInt 32 a).toNat = low a := by
  rw [BitVec.toNat_ofInt]; rfl

theorem bits_and32 {a b : Int} (ha : NOk a) (hb : NOk b) : Go.bits .and .i64 a b = wrap32 ((low a &&& low b : Nat) : Int) := by
  have : Go.bits .and .i64 a b = wrap64 ((BitVec.ofInt 64 a &&& BitVec.ofInt 64 b).toNat : Int) := by rw [← i64_wrap]; rfl
  rw [this, ofInt_sign ha, ofInt_sign hb, ← BitVec.signExtend_and, sign_back, BitVec.toNat_and, low_bv, low_bv]
theorem bits_or32 {a b : Int} (ha : NOk a) (hb : NOk b) : Go.bits .or .i64 a b = wrap32 ((low a ||| low b : Nat) : Int) := by
  have : Go.bits .or .i64 a b = wrap64 ((BitVec.ofInt 64 a ||| BitVec.ofInt 64 b).toNat : Int) := by rw [← i64_wrap]; rfl
  rw [this, ofInt_sign ha, ofInt_sign hb, ← BitVec.signExtend_or, sign_back, BitVec.toNat_or, low_bv, low_bv]
theorem bits_xor32 {a b : Int} (ha : NOk a) (hb : NOk b) : Go.bits .xor .i64 a b = wrap32 ((low a ^^^ low b : Nat) : Int) := by
  have : Go.bits .xor .i64 a b = wrap64 ((BitVec.ofInt 64 a ^^^ BitVec.ofInt 64 b).toNat : Int) := by rw [← i64_wrap]; rfl
  rw [this, ofInt_sign ha, ofInt_sign hb, ← BitVec.signExtend_xor, sign_back, BitVec.toNat_xor, low_bv, low_bv]

/-- One bit more. -/
theorem mod_succ (n i : Nat) : n % 2 ^ (i + 1) = n % 2 ^ i + (n / 2 ^ i % 2) * 2 ^ i := by
  have h := Nat.mod_mul (x := n) (a := 2 ^ i) (b := 2)
  rw [Nat.pow_succ, h, Nat.mul_comm]

theorem bit_eq (n i : Nat) : n / 2 ^ i % 2 = (n.testBit i).toNat := by
  rw [Nat.toNat_testBit]

/-- The bits that l1Bits puts together. -/
def bitOp (op : Int) (p q : Nat) : Nat := if op = 8 then p ^^^ q else if op = 7 then p ||| q else p &&& q
theorem bitOp_bit (op : Int) (p q i : Nat) : bitOp op p q / 2 ^ i % 2 = bitOp op (p / 2 ^ i % 2) (q / 2 ^ i % 2) := by
  unfold bitOp
  have hp : p / 2 ^ i % 2 < 2 := Nat.mod_lt _ (by omega)
  have hq : q / 2 ^ i % 2 < 2 := Nat.mod_lt _ (by omega)
  split
  · rw [bit_eq, Nat.testBit_xor, bit_eq, bit_eq]; cases p.testBit i <;> cases q.testBit i <;> rfl
  · split
    · rw [bit_eq, Nat.testBit_or, bit_eq, bit_eq]; cases p.testBit i <;> cases q.testBit i <;> rfl
    · rw [bit_eq, Nat.testBit_and, bit_eq, bit_eq]; cases p.testBit i <;> cases q.testBit i <;> rfl
theorem bitOp_lt (op : Int) {p q : Nat} (hp : p < 2 ^ 32) (hq : q < 2 ^ 32) : bitOp op p q < 2 ^ 32 := by
  unfold bitOp
  split
  · exact Nat.xor_lt_two_pow hp hq
  · split
    · exact Nat.or_lt_two_pow hp hq
    · exact Nat.and_lt_two_pow _ hq
theorem bitOp_small {op : Int} {p q : Nat} (hp : p < 2) (hq : q < 2) :
    (bitOp op p q : Int) = if op = 8 then ((p : Int) + q) % 2 else if op = 7 then (p : Int) + q - p * q else (p : Int) * q := by
  have h1 : p = 0 ∨ p = 1 := by omega
  have h2 : q = 0 ∨ q = 1 := by omega
  unfold bitOp
  rcases h1 with rfl | rfl <;> rcases h2 with rfl | rfl <;> (repeat' split) <;> simp
end Go.Proofs.Ytlbheepfmjbpnaa.Base
