import Derived.Test.YtchoncjikdfbgaaDoorWord3
/- The calls of the reference of layer 1, as numbers. -/
namespace Go.Proofs.YtchoncjikdfbgaaDoor
open Go.RowKit
set_option maxRecDepth 10000
set_option maxHeartbeats 4000000

theorem dig256_lt (x i : Nat) : x / 256 ^ i % 256 < 256 := Nat.mod_lt _ (by omega)
theorem byte_digit (x t e : Nat) (he : e < 8) : x / 18446744073709551616 ^ t % 18446744073709551616 / 256 ^ e % 256 = x / 256 ^ (8 * t + e) % 256 := by
  rw [show (18446744073709551616 : Nat) = 256 ^ 8 by decide, digit_mod 256 8 _ e he, Nat.div_div_eq_div_mul, ← Nat.pow_mul, ← Nat.pow_add]

/-- The parts of a word whose digits from j on are in. -/
def wst (x j : Nat) : List Int := (List.range 4).map fun t => ((x / 18446744073709551616 ^ t % 18446744073709551616 / 256 ^ (j - 8 * t) : Nat) : Int)
theorem wst_get (x j t : Nat) (h : t < 4) : (wst x j)[t]? = some ((x / 18446744073709551616 ^ t % 18446744073709551616 / 256 ^ (j - 8 * t) : Nat) : Int) := by simp [wst, h]
@[simp] theorem wst_length (x j : Nat) : (wst x j).length = 4 := by simp [wst]
theorem wst_32 (x : Nat) : wst x 32 = List.replicate 4 0 := by
  have h : ∀ t, t < 4 → x / 18446744073709551616 ^ t % 18446744073709551616 / 256 ^ (32 - 8 * t) = 0 := fun t ht => by
    have h1 := digit_lt x t
    have h2 : 256 ^ 8 ≤ 256 ^ (32 - 8 * t) := Nat.pow_le_pow_right (by omega) (by omega)
    exact Nat.div_eq_of_lt (by omega)
  unfold wst
  rw [List.map_congr_left (g := fun _ => (0 : Int)) fun t ht => by rw [h t (List.mem_range.1 ht)]; rfl]
  rfl
theorem wst_0 (x : Nat) : wst x 0 = dl 18446744073709551616 4 x := by
  unfold wst dl
  refine List.map_congr_left fun t _ => ?_
  rw [Nat.zero_sub, Nat.pow_zero, Nat.div_one]
theorem wst_step (x i : Nat) (_hi : i < 32) : x / 18446744073709551616 ^ (i / 8) % 18446744073709551616 / 256 ^ (i + 1 - 8 * (i / 8)) * 256 + x / 256 ^ i % 256 = x / 18446744073709551616 ^ (i / 8) % 18446744073709551616 / 256 ^ (i - 8 * (i / 8)) := by
  have h := byte_digit x (i / 8) (i % 8) (by omega)
  rw [show 8 * (i / 8) + i % 8 = i by omega] at h
  rw [← h, show i + 1 - 8 * (i / 8) = i % 8 + 1 by omega, show i - 8 * (i / 8) = i % 8 by omega, Nat.pow_succ, ← Nat.div_div_eq_div_mul]
  omega
theorem wst_set (x i : Nat) (_hi : i < 32) : (wst x (i + 1)).set (i / 8) ((x / 18446744073709551616 ^ (i / 8) % 18446744073709551616 / 256 ^ (i - 8 * (i / 8)) : Nat) : Int) = wst x i := by
  apply List.ext_getElem?
  intro t
  rw [List.getElem?_set, wst_length]
  by_cases ht : t < 4
  · rw [wst_get x _ t ht, wst_get x _ t ht]
    by_cases h1 : i / 8 = t
    · subst h1; simp [ht]
    · simp only [h1, if_false]
      rcases Nat.lt_or_ge (i / 8) t with h2 | h2
      · rw [show i + 1 - 8 * t = 0 by omega, show i - 8 * t = 0 by omega]
      · have h3 := digit_lt x t
        have h4 : 256 ^ 8 ≤ 256 ^ (i + 1 - 8 * t) := Nat.pow_le_pow_right (by omega) (by omega)
        have h5 : 256 ^ 8 ≤ 256 ^ (i - 8 * t) := Nat.pow_le_pow_right (by omega) (by omega)
        rw [Nat.div_eq_of_lt (by omega), Nat.div_eq_of_lt (by omega)]
  · have h1 : (wst x (i + 1))[t]? = none := List.getElem?_eq_none (by rw [wst_length]; omega)
    have h2 : (wst x i)[t]? = none := List.getElem?_eq_none (by rw [wst_length]; omega)
    rw [h1, h2]
    split
    · rename_i h; subst h; simp [ht]
    · rfl

end Go.Proofs.YtchoncjikdfbgaaDoor
