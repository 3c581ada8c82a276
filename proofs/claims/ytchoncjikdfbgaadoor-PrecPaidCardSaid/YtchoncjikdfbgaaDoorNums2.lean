import Derived.Test.YtchoncjikdfbgaaDoorWord2
/- Numbers and their bytes, the highest first; numbers to the base 2^32 without noughts ahead. -/
namespace Go.Proofs.YtchoncjikdfbgaaDoor
set_option maxRecDepth 20000
/-- The lowest n bytes of x, the highest first. -/
def bel (n x : Nat) : List Int := (dl 256 n x).reverse
@[simp] theorem bel_length (n x : Nat) : (bel n x).length = n := by simp [bel]
theorem bel_get {n x i : Nat} (h : i < n) : (bel n x)[i]? = some ((x / 256 ^ (n - 1 - i) % 256 : Nat) : Int) := by
  unfold bel
  rw [List.getElem?_reverse (by rwa [dl_length]), dl_length, dl_get (by omega)]
theorem bel_mod (n x : Nat) : bel n (x % 256 ^ n) = bel n x := by unfold bel; rw [dl_mod]
theorem bel_drop (n x j : Nat) (hj : j ≤ n) : (bel n x).drop j = bel (n - j) x := by
  unfold bel
  rw [List.drop_reverse, dl_length, dl_take _ _ _ _ (by omega)]
theorem bel_take (n x j : Nat) (hj : j ≤ n) : (bel n x).take j = bel j (x / 256 ^ (n - j)) := by
  unfold bel
  rw [List.take_reverse, dl_length, dl_drop, show n - (n - j) = j by omega]
theorem bel_zero (n : Nat) : bel n 0 = List.replicate n 0 := by unfold bel; rw [dl_zero, List.reverse_replicate]
theorem bel_byte (n x : Nat) : ∀ p ∈ bel n x, 0 ≤ p ∧ p < 256 := by
  intro p hp
  unfold bel dl at hp
  obtain ⟨i, _, rfl⟩ := List.mem_map.1 (List.mem_reverse.1 hp)
  have := dig256_lt' x i
  omega
where
  dig256_lt' (x i : Nat) : x / 256 ^ i % 256 < 256 := Nat.mod_lt _ (by omega)
theorem bel_inj {n x y : Nat} (hx : x < 256 ^ n) (hy : y < 256 ^ n) (h : bel n x = bel n y) : x = y := dl_inj (by omega) hx hy (List.reverse_inj.1 h)
/-- Any bytes are those of a number. -/
theorem bytes_of (l : List Int) (h : ∀ p ∈ l, 0 ≤ p ∧ p < 256) : ∃ x, x < 256 ^ l.length ∧ l = bel l.length x := by
  have h1 : ∀ d ∈ l.reverse.map Int.toNat, d < 256 := by
    intro d hd
    obtain ⟨p, hp, rfl⟩ := List.mem_map.1 hd
    have := h p (List.mem_reverse.1 hp)
    omega
  have h2 : (l.reverse.map Int.toNat).length = l.length := by simp
  have h3 := vl_lt h1
  have h4 := dl_vl (b := 256) (by omega) h1
  rw [h2] at h3 h4
  refine ⟨_, h3, ?_⟩
  unfold bel
  rw [h4, List.map_map]
  have h5 : l.reverse.map ((fun d : Nat => (d : Int)) ∘ Int.toNat) = l.reverse := by
    conv => rhs; rw [← List.map_id l.reverse]
    refine List.map_congr_left fun p hp => ?_
    have := h p (List.mem_reverse.1 hp)
    show ((p.toNat : Nat) : Int) = p
    omega
  rw [h5, List.reverse_reverse]
theorem bel_append (n m x y : Nat) (hy : y < 256 ^ m) : bel n x ++ bel m y = bel (n + m) (x * 256 ^ m + y) := by
  unfold bel
  rw [← List.reverse_append]
  congr 1
  refine List.ext_getElem? fun i => ?_
  by_cases h : i < m
  · rw [List.getElem?_append_left (by rwa [dl_length]), dl_get h, dl_get (by omega)]
    have := digit_add_low (x := x) (y := y) (m := m) (i := i) h
    rw [this]
  · by_cases h2 : i < n + m
    · rw [List.getElem?_append_right (by rw [dl_length]; omega), dl_length, dl_get (by omega), dl_get h2]
      have e : (x * 256 ^ m + y) / 256 ^ i = x / 256 ^ (i - m) := by
        conv => lhs; rw [show i = m + (i - m) by omega, Nat.pow_add, ← Nat.div_div_eq_div_mul, Nat.mul_comm, Nat.mul_add_div (Nat.pow_pos (by omega)), Nat.div_eq_of_lt hy, Nat.add_zero]
      rw [e]
    · rw [List.getElem?_eq_none (by simp; omega), List.getElem?_eq_none (by simp; omega)]
where
  digit_add_low {x y m i : Nat} (h : i < m) : (x * 256 ^ m + y) / 256 ^ i % 256 = y / 256 ^ i % 256 := by
    have e : x * 256 ^ m = x * 256 ^ (m - i - 1) * 256 * 256 ^ i := by
      rw [Nat.mul_assoc, Nat.mul_assoc, ← Nat.pow_succ', ← Nat.pow_add]
      congr 2
      omega
    rw [e, Nat.add_comm, Nat.add_mul_div_right _ _ (Nat.pow_pos (by omega)), Nat.add_mul_mod_self_right]
theorem bel_snoc (n x c : Nat) (hc : c < 256) : bel n x ++ [(c : Int)] = bel (n + 1) (x * 256 + c) := by
  have h : [(c : Int)] = bel 1 c := by simp [bel, dl]; omega
  rw [h, bel_append n 1 x c (by simpa using hc), Nat.pow_one]

/-- How many digits to the base 2^32 a number has. -/
def tr (x : Nat) : Nat := if x = 0 then 0 else x.log2 / 32 + 1
theorem b32 (n : Nat) : (4294967296 : Nat) ^ n = 2 ^ (32 * n) := by rw [Nat.pow_mul]
theorem tr_lt (x : Nat) : x < 4294967296 ^ tr x := by
  unfold tr
  split
  · rename_i h; rw [h]; omega
  · rename_i h
    rw [b32, ← Nat.log2_lt h]
    omega
theorem tr_le {x n : Nat} (h : x < 4294967296 ^ n) : tr x ≤ n := by
  unfold tr
  split
  · omega
  · rename_i h0
    rw [b32, ← Nat.log2_lt h0] at h
    omega
theorem tr_ge {x n : Nat} (h : 4294967296 ^ n ≤ x) : n < tr x := by
  have h1 := Nat.lt_of_le_of_lt h (tr_lt x)
  exact (Nat.pow_lt_pow_iff_right (by omega : 1 < 4294967296)).1 h1
theorem tr_mono {x y : Nat} (h : x ≤ y) : tr x ≤ tr y := tr_le (Nat.lt_of_le_of_lt h (tr_lt y))
theorem tr_0 : tr 0 = 0 := rfl
theorem tr_pos {x : Nat} (h : x ≠ 0) : 0 < tr x := tr_ge (n := 0) (by omega)
theorem tr_zero {x : Nat} : tr x = 0 ↔ x = 0 := ⟨fun h => by
  have := tr_lt x
  rw [h] at this
  omega, fun h => by rw [h]; rfl⟩
/-- A nought at the end. -/
theorem tr_cut {x m : Nat} (hx : x < 4294967296 ^ (m + 1)) (h : x / 4294967296 ^ m % 4294967296 = 0) : x < 4294967296 ^ m := by
  have h2 : x / 4294967296 ^ m < 4294967296 := Nat.div_lt_of_lt_mul (by rwa [Nat.pow_succ] at hx)
  rw [Nat.mod_eq_of_lt h2] at h
  rcases Nat.lt_or_ge x (4294967296 ^ m) with h3 | h3
  · exact h3
  · have := Nat.div_pos h3 (Nat.pow_pos (by omega)); omega
theorem tr_end {x m : Nat} (hx : x < 4294967296 ^ (m + 1)) (h : x / 4294967296 ^ m % 4294967296 ≠ 0) : tr x = m + 1 := by
  have h1 := tr_le hx
  have h2 : 4294967296 ^ m ≤ x := by
    rcases Nat.lt_or_ge x (4294967296 ^ m) with h3 | h3
    · rw [Nat.div_eq_of_lt h3] at h; exact absurd (Nat.zero_mod _) h
    · exact h3
  have := tr_ge h2
  omega
/-- A byte laid over noughts. -/
theorem lay_or {y c t : Nat} (hy : y / 256 ^ t % 256 = 0) (hc : c < 256) : y + c * 256 ^ t = y ||| c * 256 ^ t := by
  have e : (256 : Nat) ^ t = 2 ^ (8 * t) := by rw [Nat.pow_mul]
  have h1 : y = y / 256 ^ (t + 1) * 256 ^ (t + 1) + y % 256 ^ t := by
    have := split_at 256 t y
    rw [hy] at this
    omega
  have h2 : y % 256 ^ t < 256 ^ t := Nat.mod_lt _ (Nat.pow_pos (by omega))
  have h3 : y + c * 256 ^ t = 256 ^ t * (y / 256 ^ (t + 1) * 256 + c) + y % 256 ^ t := by
    conv => lhs; rw [h1]
    rw [Nat.pow_succ, Nat.mul_add, Nat.mul_comm (256 ^ t) c, Nat.mul_comm (256 ^ t) 256, Nat.mul_comm (256 ^ t) (_ * 256), Nat.mul_assoc]
    omega
  have h4 : y = 256 ^ t * (y / 256 ^ (t + 1) * 256) + y % 256 ^ t := by
    conv => lhs; rw [h1]
    rw [Nat.pow_succ, Nat.mul_comm (256 ^ t) (_ * 256), Nat.mul_assoc, Nat.mul_comm 256]
  refine Nat.eq_of_testBit_eq fun i => ?_
  rw [h3, e, Nat.testBit_two_pow_mul_add _ (by rw [← e]; exact h2), Nat.testBit_or]
  conv => rhs; rw [h4, e, Nat.testBit_two_pow_mul_add _ (by rw [← e]; exact h2)]
  rw [Nat.testBit_mul_two_pow]
  by_cases hi : i < 8 * t
  · rw [if_pos hi, if_pos hi, decide_eq_false (by omega)]; simp
  · rw [if_neg hi, if_neg hi, decide_eq_true (by omega), Bool.true_and, show (256 : Nat) = 2 ^ 8 by decide, Nat.mul_comm _ (2 ^ 8), Nat.testBit_two_pow_mul_add _ hc, Nat.testBit_two_pow_mul]
    by_cases hj : i - 8 * t < 8
    · rw [if_pos hj, decide_eq_false (by omega)]; simp
    · rw [if_neg hj, decide_eq_true (by omega), Bool.true_and, Nat.testBit_lt_two_pow (Nat.lt_of_lt_of_le hc (show 2 ^ 8 ≤ 2 ^ (i - 8 * t) from Nat.pow_le_pow_right (by omega) (by omega)))]; simp
theorem lay_dl {s n y c t : Nat} (hs : 0 < s) (hy : y / 256 ^ t % 256 = 0) (hc : c < 256) (_ht : t / s < n) :
    (dl (256 ^ s) n y).set (t / s) ((y / (256 ^ s) ^ (t / s) % 256 ^ s ||| c * 256 ^ (t % s) : Nat) : Int) = dl (256 ^ s) n (y + c * 256 ^ t) := by
  have key : ∀ i, (y + c * 256 ^ t) / (256 ^ s) ^ i % 256 ^ s = y / (256 ^ s) ^ i % 256 ^ s ||| c * 256 ^ t / (256 ^ s) ^ i % 256 ^ s := fun i => by
    rw [lay_or hy hc, show (256 : Nat) ^ s = 2 ^ (8 * s) by rw [Nat.pow_mul], ← Nat.pow_mul, Nat.or_div_two_pow, Nat.or_mod_two_pow]
  have ht : t = s * (t / s) + t % s := (Nat.div_add_mod t s).symm
  have hm : t % s < s := Nat.mod_lt _ hs
  refine List.ext_getElem? fun i => ?_
  rw [List.getElem?_set]
  by_cases hi : t / s = i
  · rw [if_pos hi]
    by_cases hn : i < n
    · rw [if_pos (by rw [dl_length]; omega), dl_get hn, key, ← hi]
      have e : c * 256 ^ t / (256 ^ s) ^ (t / s) = c * 256 ^ (t % s) := by
        conv => lhs; rw [show (256 : Nat) ^ t = 256 ^ (t % s) * (256 ^ s) ^ (t / s) by rw [← Nat.pow_mul, ← Nat.pow_add]; congr 1; omega]
        rw [← Nat.mul_assoc, Nat.mul_div_cancel _ (Nat.pow_pos (Nat.pow_pos (by omega)))]
      rw [e, Nat.mod_eq_of_lt (a := c * 256 ^ (t % s))]
      calc c * 256 ^ (t % s) < 256 * 256 ^ (t % s) := Nat.mul_lt_mul_of_pos_right hc (Nat.pow_pos (by omega))
        _ = 256 ^ (t % s + 1) := by rw [Nat.pow_succ, Nat.mul_comm]
        _ ≤ 256 ^ s := Nat.pow_le_pow_right (by omega) (by omega)
    · omega
  · rw [if_neg hi]
    by_cases hn : i < n
    · rw [dl_get hn, dl_get hn, key]
      have e : c * 256 ^ t / (256 ^ s) ^ i % 256 ^ s = 0 := by
        rcases Nat.lt_or_ge i (t / s) with h | h
        · have e2 : c * 256 ^ t = c * 256 ^ (t - s * (i + 1)) * 256 ^ s * (256 ^ s) ^ i := by
            rw [← Nat.pow_mul, Nat.mul_assoc, Nat.mul_assoc, ← Nat.pow_add, ← Nat.pow_add]
            congr 2
            have : s * (i + 1) ≤ s * (t / s) := Nat.mul_le_mul_left _ h
            rw [Nat.mul_add] at *
            omega
          rw [e2, Nat.mul_div_cancel _ (Nat.pow_pos (Nat.pow_pos (by omega)))]
          exact Nat.mul_mod_left _ _
        · rw [Nat.div_eq_of_lt, Nat.zero_mod]
          calc c * 256 ^ t < 256 * 256 ^ t := Nat.mul_lt_mul_of_pos_right hc (Nat.pow_pos (by omega))
            _ = 256 ^ (t + 1) := by rw [Nat.pow_succ, Nat.mul_comm]
            _ ≤ 256 ^ (s * i) := Nat.pow_le_pow_right (by omega) (by
                have : s * (t / s + 1) ≤ s * i := Nat.mul_le_mul_left _ (by omega)
                rw [Nat.mul_add] at this
                omega)
            _ = (256 ^ s) ^ i := Nat.pow_mul ..
      rw [e, Nat.or_zero]
    · rw [List.getElem?_eq_none (by simp; omega), List.getElem?_eq_none (by simp; omega)]
theorem bel_lt {n x i : Nat} (h : i < n) : i < (bel n x).length := by rwa [bel_length]
theorem bel_le {n x i : Nat} (h : i ≤ n) : i ≤ (bel n x).length := by rwa [bel_length]
theorem lay8 {y c i k : Nat} (hk : k < 8) (hi : i < 4) (hy : y / 256 ^ (8 * i + k) % 256 = 0) (hc : c < 256) :
    (dl 18446744073709551616 4 y).set i ((y / 18446744073709551616 ^ i % 18446744073709551616 ||| c * 2 ^ (8 * k) % 18446744073709551616 : Nat) : Int) = dl 18446744073709551616 4 (y + c * 256 ^ (8 * i + k)) := by
  have := lay_dl (s := 8) (n := 4) (t := 8 * i + k) (by omega) hy hc (by omega)
  rw [show (8 * i + k) / 8 = i by omega, show (8 * i + k) % 8 = k by omega, show (256 : Nat) ^ 8 = 18446744073709551616 by decide] at this
  rw [← this, Nat.mod_eq_of_lt (a := c * 2 ^ (8 * k)), Nat.pow_mul]
  have h1 : 2 ^ (8 * k) ≤ 2 ^ 56 := Nat.pow_le_pow_right (by omega) (by omega)
  have h2 : c * 2 ^ (8 * k) ≤ 255 * 2 ^ 56 := Nat.mul_le_mul (by omega) h1
  omega
theorem lay4 {y c t n : Nat} (ht : t / 4 < n) (hy : y / 256 ^ t % 256 = 0) (hc : c < 256) :
    (dl 4294967296 n y).set (t / 4) ((y / 4294967296 ^ (t / 4) % 4294967296 ||| c * 2 ^ (8 * (t % 4)) % 4294967296 : Nat) : Int) = dl 4294967296 n (y + c * 256 ^ t) := by
  have := lay_dl (s := 4) (n := n) (t := t) (by omega) hy hc ht
  rw [show (256 : Nat) ^ 4 = 4294967296 by decide] at this
  rw [← this, Nat.mod_eq_of_lt (a := c * 2 ^ (8 * (t % 4))), Nat.pow_mul]
  have h1 : 2 ^ (8 * (t % 4)) ≤ 2 ^ 24 := Nat.pow_le_pow_right (by omega) (by omega)
  have h2 : c * 2 ^ (8 * (t % 4)) ≤ 255 * 2 ^ 24 := Nat.mul_le_mul (by omega) h1
  omega
theorem from_all (m y : Nat) (hm : m ≤ 32) (hy : y < 256 ^ m) :
    (List.replicate 32 (0 : Int)).take (if 32 = 32 - m then 0 else 32 - m) ++ (bel m y).take m ++ (List.replicate 32 (0 : Int)).drop ((if 32 = 32 - m then 0 else 32 - m) + m) = bel 32 y := by
  have e : (bel m y).take m = bel m y := List.take_of_length_le (by rw [bel_length]; omega)
  rw [e]
  by_cases h : m = 0
  · subst h
    have : y = 0 := by omega
    subst this
    rw [if_pos rfl, List.take_zero, List.nil_append, Nat.add_zero, List.drop_zero, bel_zero, bel_zero]
    rfl
  · rw [if_neg (by omega), List.take_replicate, List.drop_replicate, show 32 - (32 - m + m) = 0 by omega, show min (32 - m) 32 = 32 - m by omega, ← bel_zero, bel_append _ _ _ _ hy]
    simp
    congr 1
    omega
end Go.Proofs.YtchoncjikdfbgaaDoor
