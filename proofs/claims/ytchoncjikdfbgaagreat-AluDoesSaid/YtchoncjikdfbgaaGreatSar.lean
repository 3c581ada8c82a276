import Derived.Test.YtchoncjikdfbgaaGreatExt
/- The plain law of a shift with the sign. -/
namespace Go.Proofs.YtchoncjikdfbgaaGreat
open Go.RowKit
set_option maxRecDepth 20000
set_option maxHeartbeats 4000000

theorem sarN_bit {a n i : Nat} (ha : a < 2 ^ 256) (hi : i < 256) : (sarN a n).testBit i = if i + n < 256 then a.testBit (i + n) else a.testBit 255 := by
  have hs := sgn_bit ha
  unfold sarN
  by_cases s : sgn a = true
  · rw [if_pos s]
    rw [s] at hs
    by_cases h : 256 ≤ n
    · rw [if_pos h, if_neg (by omega), hs]
      unfold onesN
      rw [Nat.testBit_two_pow_sub_one]
      exact decide_eq_true hi
    · rw [if_neg h, ones_shl (by omega), Nat.testBit_or, Nat.testBit_div_two_pow, Nat.testBit_two_pow_mul, Nat.testBit_two_pow_sub_one]
      by_cases h2 : i + n < 256
      · rw [if_pos h2, decide_eq_false (show ¬ (256 - n ≤ i) by omega)]
        simp
      · rw [if_neg h2, hs, decide_eq_true (show 256 - n ≤ i by omega), decide_eq_true (show i - (256 - n) < 256 - (256 - n) by omega)]
        simp
  · rw [if_neg s]
    rw [Bool.eq_false_iff.2 s] at hs
    rw [Nat.testBit_div_two_pow]
    by_cases h2 : i + n < 256
    · rw [if_pos h2]
    · rw [if_neg h2, hs]
      exact Nat.testBit_lt_two_pow (Nat.lt_of_lt_of_le ha (Nat.pow_le_pow_right (by omega) (by omega)))
theorem sarN_dig {a n k i : Nat} (ha : a < 2 ^ 256) (hk : min n 300 = k) (hi : i < 256) : sarN a n / 2 ^ i % 2 = if i + k < 256 then a / 2 ^ (i + k) % 2 else a / 2 ^ 255 % 2 := by
  have e : (if i + k < 256 then a / 2 ^ (i + k) % 2 else a / 2 ^ 255 % 2) = (if i + k < 256 then (a.testBit (i + k)).toNat else (a.testBit 255).toNat) := by
    rw [Nat.toNat_testBit, Nat.toNat_testBit]
  rw [e, ← Nat.toNat_testBit, sarN_bit ha hi]
  by_cases h : i + n < 256
  · rw [if_pos h, if_pos (by omega), show k = n by omega]
  · rw [if_neg h, if_neg (by omega)]
theorem sarN_lt {a n : Nat} (ha : a < 2 ^ 256) : sarN a n < 2 ^ 256 := by
  unfold sarN
  have h1 : a / 2 ^ n < 2 ^ 256 := Nat.lt_of_le_of_lt (Nat.div_le_self _ _) ha
  split
  · split
    · exact onesN_lt
    · exact Nat.or_lt_two_pow h1 (Nat.mod_lt _ (by omega))
  · exact h1
theorem sarN_low {a n : Nat} (ha : a < 2 ^ 256) (hn : n < 256) : sarN a n * 2 ^ n % 2 ^ 256 = a / 2 ^ n * 2 ^ n := by
  refine Nat.eq_of_testBit_eq fun i => ?_
  rw [Nat.testBit_mod_two_pow, Nat.testBit_mul_two_pow, Nat.testBit_mul_two_pow, Nat.testBit_div_two_pow]
  by_cases h : i < 256
  · rw [decide_eq_true h, Bool.true_and]
    by_cases h2 : n ≤ i
    · rw [decide_eq_true h2, Bool.true_and, Bool.true_and, sarN_bit ha (by omega), if_pos (by omega)]
    · rw [decide_eq_false h2]; rfl
  · rw [decide_eq_false h, Bool.false_and]
    have : a.testBit (i - n + n) = false := Nat.testBit_lt_two_pow (Nat.lt_of_lt_of_le ha (Nat.pow_le_pow_right (by omega) (by omega)))
    rw [this, Bool.and_false]
theorem sar_left {a n : Nat} (ha : a < 2 ^ 256) : (a + 2 ^ 256 - a / 2 ^ n * 2 ^ n) % 2 ^ 256 = a % 2 ^ n := by
  have h := Nat.div_add_mod a (2 ^ n)
  rw [Nat.mul_comm] at h
  have h2 : a % 2 ^ n ≤ a := Nat.mod_le _ _
  omega
theorem sar_slt {a n : Nat} (ha : a < 2 ^ 256) (hn : n ≤ 255) : slt a (a / 2 ^ n * 2 ^ n) = false := by
  have h := Nat.div_add_mod a (2 ^ n)
  rw [Nat.mul_comm] at h
  unfold slt
  refine decide_eq_false ?_
  by_cases s : 2 ^ 255 ≤ a
  · have : 2 ^ 255 ≤ a / 2 ^ n * 2 ^ n := by
      have e : 2 ^ (255 - n) * 2 ^ n = 2 ^ 255 := by rw [← Nat.pow_add]; congr 1; omega
      rw [← e] at s ⊢
      exact Nat.mul_le_mul_right _ ((Nat.le_div_iff_mul_le (Nat.pow_pos (by omega))).2 s)
    omega
  · omega
theorem pow_small {n : Nat} (hn : n < 256) : 1 * 2 ^ n % 2 ^ 256 = 2 ^ n := by
  rw [Nat.one_mul]
  exact Nat.mod_eq_of_lt (Nat.pow_lt_pow_right (by omega) hn)
def sav (a k i : Nat) : Nat := if i + k < 256 then a / 2 ^ (i + k) % 2 else a / 2 ^ 255 % 2
def sal (a k j : Nat) : List Int := (List.range 256).map fun i => if i < j then ((sav a k i : Nat) : Int) else 0
@[simp] theorem sal_length (a k j : Nat) : (sal a k j).length = 256 := by unfold sal; rw [List.length_map, List.length_range]
theorem sal_get {a k j i : Nat} (h : i < (sal a k j).length) : (sal a k j)[i] = if i < j then ((sav a k i : Nat) : Int) else 0 := by simp [sal]
theorem sal_zero (a k : Nat) : sal a k 0 = List.replicate 256 0 := by
  refine List.ext_getElem (by rw [sal_length, List.length_replicate]) fun i h1 h2 => ?_
  rw [sal_get, if_neg (by omega), List.getElem_replicate]
theorem sal_set (a k j : Nat) (hj : j < 256) (v : Int) (hv : v = ((sav a k j : Nat) : Int)) : (sal a k j).set j v = sal a k (j + 1) := by
  refine List.ext_getElem (by rw [List.length_set, sal_length, sal_length]) fun i h1 h2 => ?_
  rw [List.getElem_set, sal_get, sal_get]
  by_cases h : j = i
  · subst h
    rw [if_pos rfl, if_pos (by omega), hv]
  · rw [if_neg h]
    by_cases h3 : i < j
    · rw [if_pos h3, if_pos (by omega)]
    · rw [if_neg h3, if_neg (by omega)]
theorem sal_last {a n k : Nat} (ha : a < 2 ^ 256) (hk : min n 300 = k) : sal a k 256 = dl 2 256 (sarN a n) := by
  unfold sal dl
  refine List.map_congr_left fun i hi => ?_
  have hi := List.mem_range.1 hi
  rw [if_pos hi, sarN_dig ha hk hi]
  rfl
end Go.Proofs.YtchoncjikdfbgaaGreat
