import Derived.Test.YtchoncjikdfbgaaGreatSign2
/- The plain law of sign's Extend. -/
namespace Go.Proofs.YtchoncjikdfbgaaGreat
open Go.RowKit
set_option maxRecDepth 20000
set_option maxHeartbeats 4000000

theorem ones_shl {k : Nat} (hk : k ≤ 256) : onesN * 2 ^ k % 2 ^ 256 = 2 ^ k * (2 ^ (256 - k) - 1) := by
  have h2 : 2 ^ k * 2 ^ (256 - k) = 2 ^ 256 := by rw [← Nat.pow_add]; congr 1; omega
  have hp : 0 < 2 ^ k := Nat.pow_pos (by omega)
  have hq : 0 < 2 ^ (256 - k) := Nat.pow_pos (by omega)
  have hle : 2 ^ k ≤ 2 ^ 256 := Nat.pow_le_pow_right (by omega) hk
  have e : onesN * 2 ^ k = 2 ^ k * (2 ^ (256 - k) - 1) + (2 ^ k - 1) * 2 ^ 256 := by
    unfold onesN
    rw [Nat.mul_sub, h2, Nat.mul_one, Nat.sub_mul, Nat.sub_mul, Nat.one_mul, Nat.one_mul, Nat.mul_comm (2 ^ k) (2 ^ 256)]
    generalize 2 ^ k = p at *
    omega
  rw [e, Nat.add_mul_mod_self_right]
  refine Nat.mod_eq_of_lt ?_
  rw [Nat.mul_sub, h2, Nat.mul_one]
  omega
theorem ext_or {a k : Nat} (ha : a < 2 ^ 256) (hk : k ≤ 256) : a ||| (2 ^ k * (2 ^ (256 - k) - 1)) = 2 ^ k * (2 ^ (256 - k) - 1) + a % 2 ^ k := by
  refine Nat.eq_of_testBit_eq fun i => ?_
  rw [Nat.testBit_or, Nat.testBit_two_pow_mul_add _ (Nat.mod_lt _ (Nat.pow_pos (by omega))), Nat.testBit_two_pow_mul, Nat.testBit_two_pow_sub_one, Nat.testBit_mod_two_pow]
  by_cases h : i < k
  · simp [h]; intro h3; omega
  · rw [if_neg h]
    by_cases h2 : i - k < 256 - k
    · simp [h2]; omega
    · have : a.testBit i = false := Nat.testBit_lt_two_pow (Nat.lt_of_lt_of_le ha (Nat.pow_le_pow_right (by omega) (by omega)))
      simp [h2, this]
theorem ext_and {a k : Nat} (hk : k ≤ 256) : a &&& (2 ^ 256 - 1 - 2 ^ k * (2 ^ (256 - k) - 1)) = a % 2 ^ k := by
  have h2 : 2 ^ k * 2 ^ (256 - k) = 2 ^ 256 := by rw [← Nat.pow_add]; congr 1; omega
  have hle : 2 ^ k ≤ 2 ^ 256 := Nat.pow_le_pow_right (by omega) hk
  have hp : 0 < 2 ^ k := Nat.pow_pos (by omega)
  rw [Nat.mul_sub, h2, Nat.mul_one, show 2 ^ 256 - 1 - (2 ^ 256 - 2 ^ k) = 2 ^ k - 1 by omega, Nat.and_two_pow_sub_one_eq_mod]
/-- The lowest n + 1 bytes with their sign. -/
theorem extN_eq {n a : Nat} (ha : a < 2 ^ 256) (hn : n ≤ 30) : extN n a = if a.testBit (8 * n + 7) = true then 2 ^ (8 * n + 8) * (2 ^ (256 - (8 * n + 8)) - 1) + a % 2 ^ (8 * n + 8) else a % 2 ^ (8 * n + 8) := by
  unfold extN
  rw [if_pos hn, ones_shl (by omega), ext_or ha (by omega), ext_and (by omega)]
  rfl
theorem extN_lt {n a : Nat} (ha : a < 2 ^ 256) : extN n a < 2 ^ 256 := by
  by_cases hn : n ≤ 30
  · rw [extN_eq ha hn]
    have h2 : 2 ^ (8 * n + 8) * 2 ^ (256 - (8 * n + 8)) = 2 ^ 256 := by rw [← Nat.pow_add]; congr 1; omega
    have hp : 0 < 2 ^ (8 * n + 8) := Nat.pow_pos (by omega)
    have hm := Nat.mod_lt a hp
    have hle : 2 ^ (8 * n + 8) ≤ 2 ^ 256 := Nat.pow_le_pow_right (by omega) (by omega)
    split
    · rw [Nat.mul_sub, h2, Nat.mul_one]; omega
    · omega
  · unfold extN
    rw [if_neg hn]
    exact ha
theorem extN_twice {n a : Nat} (ha : a < 2 ^ 256) : extN n (extN n a) = extN n a := by
  by_cases hn : n ≤ 30
  · have hl := extN_lt (n := n) ha
    have hp : 0 < 2 ^ (8 * n + 8) := Nat.pow_pos (by omega)
    have h1 : extN n a % 2 ^ (8 * n + 8) = a % 2 ^ (8 * n + 8) := by
      rw [extN_eq ha hn]
      split
      · rw [Nat.mul_add_mod, Nat.mod_mod]
      · rw [Nat.mod_mod]
    have h2 : (extN n a).testBit (8 * n + 7) = a.testBit (8 * n + 7) := by
      have := congrArg (fun x => Nat.testBit x (8 * n + 7)) h1
      simp only [Nat.testBit_mod_two_pow] at this
      simpa using this
    rw [extN_eq hl hn, h1, h2, ← extN_eq ha hn]
  · unfold extN
    rw [if_neg hn, if_neg hn]
end Go.Proofs.YtchoncjikdfbgaaGreat
