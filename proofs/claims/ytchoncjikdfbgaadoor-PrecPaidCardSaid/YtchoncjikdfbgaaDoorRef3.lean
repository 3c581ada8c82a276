import Derived.Test.YtchoncjikdfbgaaDoorRef2
/- The reference's and, or, xor. -/
namespace Go.Proofs.YtchoncjikdfbgaaDoor
open Go.RowKit
set_option maxRecDepth 10000
set_option maxHeartbeats 4000000

theorem bitN_nat (x i : Nat) (hi : i < 256) : bitN x i = x / 2 ^ i % 2 := by
  unfold bitN
  rw [if_pos (by omega), Int.toNat_natCast]
def isBit (k : Int) (s : Nat) : Prop := (k = 0 ∧ s = 2) ∨ (k = 1 ∧ 0 < s) ∨ (k = 2 ∧ s = 1)
theorem bit_and (x y i : Nat) (hi : i < 256) : (isBit 0 (bitN x i + bitN y i) → (x &&& y) / 2 ^ i % 2 = 1) ∧ (¬ isBit 0 (bitN x i + bitN y i) → (x &&& y) / 2 ^ i % 2 = 0) := by
  rw [bitN_nat x i hi, bitN_nat y i hi, ← Nat.toNat_testBit, ← Nat.toNat_testBit, ← Nat.toNat_testBit, Nat.testBit_and]
  unfold isBit
  cases x.testBit i <;> cases y.testBit i <;> simp
theorem bit_or (x y i : Nat) (hi : i < 256) : (isBit 1 (bitN x i + bitN y i) → (x ||| y) / 2 ^ i % 2 = 1) ∧ (¬ isBit 1 (bitN x i + bitN y i) → (x ||| y) / 2 ^ i % 2 = 0) := by
  rw [bitN_nat x i hi, bitN_nat y i hi, ← Nat.toNat_testBit, ← Nat.toNat_testBit, ← Nat.toNat_testBit, Nat.testBit_or]
  unfold isBit
  cases x.testBit i <;> cases y.testBit i <;> simp
theorem bit_xor (x y i : Nat) (hi : i < 256) : (isBit 2 (bitN x i + bitN y i) → (x ^^^ y) / 2 ^ i % 2 = 1) ∧ (¬ isBit 2 (bitN x i + bitN y i) → (x ^^^ y) / 2 ^ i % 2 = 0) := by
  rw [bitN_nat x i hi, bitN_nat y i hi, ← Nat.toNat_testBit, ← Nat.toNat_testBit, ← Nat.toNat_testBit, Nat.testBit_xor]
  unfold isBit
  cases x.testBit i <;> cases y.testBit i <;> simp
theorem bit_not (x i : Nat) (hx : x < 2 ^ 256) (hi : i < 256) : (isBit 2 (bitN x i + bitN (2 ^ 256 - 1) i) → (2 ^ 256 - 1 - x) / 2 ^ i % 2 = 1) ∧ (¬ isBit 2 (bitN x i + bitN (2 ^ 256 - 1) i) → (2 ^ 256 - 1 - x) / 2 ^ i % 2 = 0) := by
  rw [bitN_nat x i hi, bitN_nat (2 ^ 256 - 1) i hi, ← Nat.toNat_testBit x, ← Nat.toNat_testBit (2 ^ 256 - 1), ← Nat.toNat_testBit (2 ^ 256 - 1 - x), Nat.testBit_two_pow_sub_one,
    show 2 ^ 256 - 1 - x = 2 ^ 256 - (x + 1) by omega, Nat.testBit_two_pow_sub_succ hx, decide_eq_true hi]
  unfold isBit
  cases x.testBit i <;> simp
end Go.Proofs.YtchoncjikdfbgaaDoor
