import Derived.Test.YtchoncjikdfbgaaGreatExt
/- The digits of an extended word. -/
namespace Go.Proofs.YtchoncjikdfbgaaGreat
open Go.RowKit
set_option maxRecDepth 20000
set_option maxHeartbeats 4000000

def exl (n : Nat) (f : Int) (a j : Nat) : List Int := (List.range 32).map fun i => if n < i ∧ i < j then f else ((a / 256 ^ i % 256 : Nat) : Int)
theorem exl_first (n a : Nat) (f : Int) : exl n f a (n + 1) = dl 256 32 a := by
  unfold exl dl
  refine List.map_congr_left fun i _ => ?_
  rw [if_neg (by omega)]
theorem exl_length (n a j : Nat) (f : Int) : (exl n f a j).length = 32 := by unfold exl; rw [List.length_map, List.length_range]
theorem exl_get {n a j : Nat} {f : Int} {i : Nat} (h : i < (exl n f a j).length) : (exl n f a j)[i] = if n < i ∧ i < j then f else ((a / 256 ^ i % 256 : Nat) : Int) := by simp [exl]
theorem exl_set (n a j : Nat) (f : Int) (hn : n < j) (hj : j < 32) : (exl n f a j).set j f = exl n f a (j + 1) := by
  refine List.ext_getElem (by rw [List.length_set, exl_length, exl_length]) fun i h1 h2 => ?_
  rw [List.getElem_set, exl_get, exl_get]
  by_cases h : j = i
  · rw [if_pos h, if_pos (by omega)]
  · rw [if_neg h]
    by_cases h3 : n < i ∧ i < j
    · rw [if_pos h3, if_pos (by omega)]
    · rw [if_neg h3, if_neg (by omega)]
theorem dig_low {x y n i : Nat} (h : x % 256 ^ n = y % 256 ^ n) (hi : i < n) : x / 256 ^ i % 256 = y / 256 ^ i % 256 := by
  have e : ∀ z : Nat, z / 256 ^ i % 256 = z % 256 ^ n % 256 ^ (i + 1) / 256 ^ i := fun z => by
    rw [Nat.mod_mod_of_dvd _ (Nat.pow_dvd_pow 256 (by omega)), Nat.pow_succ, Nat.mod_mul_right_div_self]
  rw [e x, e y, h]
theorem exl_last {n a : Nat} (ha : a < 2 ^ 256) (hn : n ≤ 30) : exl n (if a.testBit (8 * n + 7) = true then 255 else 0) a 32 = dl 256 32 (extN n a) := by
  have hk : (2 : Nat) ^ (8 * n + 8) = 256 ^ (n + 1) := by rw [show 8 * n + 8 = 8 * (n + 1) by omega, Nat.pow_mul]
  have hp : 0 < 256 ^ (n + 1) := Nat.pow_pos (by omega)
  have hm := Nat.mod_lt a hp
  unfold exl dl
  refine List.map_congr_left fun i hi => ?_
  have hi := List.mem_range.1 hi
  rw [extN_eq ha hn, hk]
  by_cases h : n < i
  · rw [if_pos ⟨h, hi⟩]
    by_cases hb : a.testBit (8 * n + 7) = true
    · rw [if_pos hb, if_pos hb]
      have e2 : (2 : Nat) ^ (256 - (8 * n + 8)) = 256 ^ (31 - n) := by rw [show 256 - (8 * n + 8) = 8 * (31 - n) by omega, Nat.pow_mul]
      have e3 : 256 ^ (n + 1) * (256 ^ (31 - n) - 1) + a % 256 ^ (n + 1) = (256 ^ (i - (n + 1)) * 256 ^ (n + 1) - 256 ^ (n + 1) + a % 256 ^ (n + 1)) + (256 ^ (32 - i) - 1) * 256 ^ i := by
        have p1 : 256 ^ (n + 1) * 256 ^ (31 - n) = 256 ^ 32 := by rw [← Nat.pow_add]; congr 1; omega
        have p2 : 256 ^ (i - (n + 1)) * 256 ^ (n + 1) = 256 ^ i := by rw [← Nat.pow_add]; congr 1; omega
        have p3 : 256 ^ (32 - i) * 256 ^ i = 256 ^ 32 := by rw [← Nat.pow_add]; congr 1; omega
        rw [Nat.mul_sub, p1, Nat.mul_one, p2, Nat.sub_mul, p3, Nat.one_mul]
        have q1 : 256 ^ (n + 1) ≤ 256 ^ i := Nat.pow_le_pow_right (by omega) (by omega)
        have q2 : 256 ^ i ≤ 256 ^ 32 := Nat.pow_le_pow_right (by omega) (by omega)
        omega
      have p2 : 256 ^ (i - (n + 1)) * 256 ^ (n + 1) = 256 ^ i := by rw [← Nat.pow_add]; congr 1; omega
      have q1 : 256 ^ (n + 1) ≤ 256 ^ i := Nat.pow_le_pow_right (by omega) (by omega)
      rw [e2, e3, Nat.add_mul_div_right _ _ (Nat.pow_pos (by omega)), Nat.div_eq_of_lt (by rw [p2]; omega), Nat.zero_add, show 32 - i = (31 - i) + 1 by omega, Nat.pow_succ]
      have : 0 < 256 ^ (31 - i) := Nat.pow_pos (by omega)
      generalize 256 ^ (31 - i) = z at *
      omega
    · rw [if_neg hb, if_neg hb, Nat.div_eq_of_lt (Nat.lt_of_lt_of_le hm (Nat.pow_le_pow_right (by omega) (by omega)))]
      rfl
  · rw [if_neg (by omega)]
    refine congrArg (fun z : Nat => (z : Int)) (dig_low (n := n + 1) ?_ (by omega))
    split
    · rw [Nat.mul_add_mod, Nat.mod_mod]
    · rw [Nat.mod_mod]
theorem ext_bit {n a : Nat} : decide (128 ≤ a / 256 ^ n % 256) = a.testBit (8 * n + 7) := by
  have e : a.testBit (8 * n + 7) = decide (a / 2 ^ (8 * n + 7) % 2 = 1) := Nat.testBit_eq_decide_div_mod_eq
  rw [e, show (2 : Nat) ^ (8 * n + 7) = 256 ^ n * 128 by rw [Nat.pow_add, Nat.pow_mul], ← Nat.div_div_eq_div_mul]
  exact decide_eq_decide.2 ⟨fun _ => by omega, fun _ => by omega⟩
end Go.Proofs.YtchoncjikdfbgaaGreat
