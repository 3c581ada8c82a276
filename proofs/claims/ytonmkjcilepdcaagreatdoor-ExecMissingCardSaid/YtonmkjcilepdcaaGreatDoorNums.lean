import Derived.Test.YtonmkjcilepdcaaGreatDoorSlices
/- Numbers and their digits. -/
namespace Go.Proofs.YtonmkjcilepdcaaGreatDoor

/-- The lowest n digits of x to the base b. -/
def dl (b n x : Nat) : List Int := (List.range n).map fun i => ((x / b ^ i % b : Nat) : Int)

@[simp] theorem dl_length (b n x : Nat) : (dl b n x).length = n := by simp [dl]
theorem dl_get {b n x i : Nat} (h : i < n) : (dl b n x)[i]? = some ((x / b ^ i % b : Nat) : Int) := by simp [dl, h]
theorem dl_lt {b n x i : Nat} (h : i < n) : i < (dl b n x).length := by rwa [dl_length]
theorem dl_le {b n x i : Nat} (h : i ≤ n) : i ≤ (dl b n x).length := by rwa [dl_length]
theorem dl_succ (b n x : Nat) : dl b (n + 1) x = dl b n x ++ [((x / b ^ n % b : Nat) : Int)] := by simp [dl, List.range_succ]
theorem dl_getD {b n x i : Nat} (h : i < n) : (dl b n x).getD i 0 = ((x / b ^ i % b : Nat) : Int) := by simp [List.getD, dl_get h]
theorem dl_congr {b n x y : Nat} (h : ∀ i, i < n → x / b ^ i % b = y / b ^ i % b) : dl b n x = dl b n y := by
  unfold dl
  exact List.map_congr_left fun i hi => by rw [h i (List.mem_range.1 hi)]
theorem digit_mod (b n x i : Nat) (h : i < n) : x % b ^ n / b ^ i % b = x / b ^ i % b := by
  obtain ⟨k, rfl⟩ : ∃ k, n = i + (k + 1) := ⟨n - i - 1, by omega⟩
  rw [Nat.pow_add, Nat.mod_mul_right_div_self, Nat.pow_succ, Nat.mul_comm (b ^ k) b, Nat.mod_mul_right_mod]
theorem dl_mod (b n x : Nat) : dl b n (x % b ^ n) = dl b n x := dl_congr fun i h => digit_mod b n x i h
theorem digits_inj {b : Nat} (hb : 0 < b) : ∀ (n x y : Nat), x < b ^ n → y < b ^ n → (∀ i, i < n → x / b ^ i % b = y / b ^ i % b) → x = y
  | 0, x, y, hx, hy, _ => by simp at hx hy; omega
  | n + 1, x, y, hx, hy, h => by
    have h0 := h 0 (by omega)
    simp only [Nat.pow_zero, Nat.div_one] at h0
    have h1 := digits_inj hb n (x / b) (y / b) (Nat.div_lt_of_lt_mul (by rw [Nat.pow_succ] at hx; rw [Nat.mul_comm]; exact hx)) (Nat.div_lt_of_lt_mul (by rw [Nat.pow_succ] at hy; rw [Nat.mul_comm]; exact hy)) fun i hi => by
      have := h (i + 1) (by omega)
      rw [Nat.pow_succ, Nat.mul_comm, ← Nat.div_div_eq_div_mul, ← Nat.div_div_eq_div_mul] at this
      exact this
    rw [← Nat.div_add_mod x b, ← Nat.div_add_mod y b, h0, h1]
theorem dl_inj {b n x y : Nat} (hb : 0 < b) (hx : x < b ^ n) (hy : y < b ^ n) (h : dl b n x = dl b n y) : x = y := by
  refine digits_inj hb n x y hx hy fun i hi => ?_
  have h1 := dl_get (b := b) (x := x) hi
  rw [h, dl_get hi] at h1
  have : ((y / b ^ i % b : Nat) : Int) = ((x / b ^ i % b : Nat) : Int) := by simpa using h1
  omega
theorem digit_add_lt {b x d i j : Nat} (hb : 0 < b) (hx : x < b ^ i) (hd : d < b) : (x + d * b ^ i) / b ^ j % b = if j < i then x / b ^ j % b else if j = i then d else 0 := by
  have hp : 0 < b ^ i := Nat.pow_pos hb
  split
  · rename_i h
    rw [← digit_mod b i (x + d * b ^ i) j h, Nat.add_mul_mod_self_right, digit_mod b i x j h]
  · split
    · rename_i h h2
      subst h2
      rw [Nat.add_mul_div_right _ _ hp, Nat.div_eq_of_lt hx, Nat.zero_add, Nat.mod_eq_of_lt hd]
    · rename_i h h2
      have h3 : x + d * b ^ i < b ^ (i + 1) := by
        rw [Nat.pow_succ]
        have : (d + 1) * b ^ i ≤ b * b ^ i := Nat.mul_le_mul_right _ hd
        rw [Nat.succ_mul] at this
        rw [Nat.mul_comm (b ^ i) b]
        omega
      have h4 : b ^ (i + 1) ≤ b ^ j := Nat.pow_le_pow_right hb (by omega)
      rw [Nat.div_eq_of_lt (by omega), Nat.zero_mod]
theorem dl_set {b n x d i : Nat} (hb : 0 < b) (hx : x < b ^ i) (hd : d < b) : (dl b n x).set i ((d : Nat) : Int) = dl b n (x + d * b ^ i) := by
  apply List.ext_getElem?
  intro j
  rw [List.getElem?_set]
  by_cases hj : j < n
  · rw [dl_get hj, dl_get hj, dl_length, digit_add_lt hb hx hd]
    by_cases h1 : i = j
    · subst h1; simp [hj]
    · simp only [h1, if_false]
      by_cases h2 : j < i
      · simp [h2]
      · have : x / b ^ j % b = 0 := by
          have : b ^ i ≤ b ^ j := Nat.pow_le_pow_right hb (by omega)
          rw [Nat.div_eq_of_lt (by omega), Nat.zero_mod]
        simp [h2, this, show j ≠ i by omega]
  · have h1 : (dl b n x)[j]? = none := List.getElem?_eq_none (by rw [dl_length]; omega)
    have h2 : (dl b n (x + d * b ^ i))[j]? = none := List.getElem?_eq_none (by rw [dl_length]; omega)
    rw [h1, h2, dl_length]
    split
    · rename_i h; subst h; simp [hj]
    · rfl

/-- The number that digits tell, the lowest first. -/
def vl (b : Nat) : List Nat → Nat
  | [] => 0
  | d :: l => d + b * vl b l
theorem vl_lt {b : Nat} : ∀ {l : List Nat}, (∀ d ∈ l, d < b) → vl b l < b ^ l.length
  | [], _ => by simp [vl]
  | d :: l, h => by
    have h1 := h d List.mem_cons_self
    have h2 := vl_lt (l := l) fun e he => h e (List.mem_cons_of_mem _ he)
    simp only [vl, List.length_cons, Nat.pow_succ]
    have : b * (vl b l + 1) ≤ b * b ^ l.length := Nat.mul_le_mul_left _ h2
    rw [Nat.mul_succ] at this
    rw [Nat.mul_comm (b ^ l.length) b]
    omega
theorem vl_digit {b : Nat} (hb : 0 < b) : ∀ {l : List Nat}, (∀ d ∈ l, d < b) → ∀ i, i < l.length → vl b l / b ^ i % b = l.getD i 0
  | [], _, i, hi => by simp at hi
  | d :: l, h, 0, _ => by
    have := h d List.mem_cons_self
    simp [vl, Nat.mod_eq_of_lt this]
  | d :: l, h, i + 1, hi => by
    have h1 := h d List.mem_cons_self
    have ih := vl_digit hb (l := l) (fun e he => h e (List.mem_cons_of_mem _ he)) i (by simp at hi; omega)
    simp only [vl]
    rw [Nat.pow_succ, Nat.mul_comm (b ^ i) b, ← Nat.div_div_eq_div_mul, Nat.add_mul_div_left _ _ hb, Nat.div_eq_of_lt h1, Nat.zero_add, ih]
    simp
theorem dl_vl {b : Nat} (hb : 0 < b) {l : List Nat} (h : ∀ d ∈ l, d < b) : dl b l.length (vl b l) = l.map fun d => ((d : Nat) : Int) := by
  apply List.ext_getElem?
  intro j
  by_cases hj : j < l.length
  · rw [dl_get hj, vl_digit hb h j hj]
    simp [hj, List.getD]
  · rw [List.getElem?_eq_none (by rw [dl_length]; omega), List.getElem?_eq_none (by simp; omega)]

theorem dl_zero (b n : Nat) : dl b n 0 = List.replicate n 0 := by
  apply List.ext_getElem?
  intro i
  by_cases h : i < n
  · rw [dl_get h]; simp [h]
  · rw [List.getElem?_eq_none (by simp; omega), List.getElem?_eq_none (by simp; omega)]
theorem dig_high {b x n i : Nat} (hb : 0 < b) (hx : x < b ^ n) (h : n ≤ i) : x / b ^ i = 0 := Nat.div_eq_of_lt (Nat.lt_of_lt_of_le hx (Nat.pow_le_pow_right hb h))
theorem dig_high' {b x n i : Nat} (hb : 0 < b) (hx : x < b ^ n) (h : n ≤ i) : x / b ^ i % b = 0 := by rw [dig_high hb hx h, Nat.zero_mod]

theorem dl_drop (b n x j : Nat) : (dl b n x).drop j = dl b (n - j) (x / b ^ j) := by
  apply List.ext_getElem?
  intro i
  rw [List.getElem?_drop]
  by_cases h : j + i < n
  · rw [dl_get h, dl_get (by omega), Nat.div_div_eq_div_mul, ← Nat.pow_add]
  · rw [List.getElem?_eq_none (by simp; omega), List.getElem?_eq_none (by simp; omega)]
theorem dl_take (b n x j : Nat) (hj : j ≤ n) : (dl b n x).take j = dl b j x := by
  apply List.ext_getElem?
  intro i
  rw [List.getElem?_take]
  by_cases h : i < j
  · rw [if_pos h, dl_get (by omega), dl_get h]
  · rw [if_neg h, List.getElem?_eq_none (by simp; omega)]
theorem dl_cons {b n x d : Nat} (hd : d < b) : dl b (n + 1) (d + b * x) = ((d : Nat) : Int) :: dl b n x := by
  have hb : 0 < b := by omega
  apply List.ext_getElem?
  intro i
  cases i with
  | zero => rw [dl_get (by omega), Nat.pow_zero, Nat.div_one, Nat.add_mul_mod_self_left, Nat.mod_eq_of_lt hd]; rfl
  | succ i =>
    rw [List.getElem?_cons_succ]
    by_cases h : i < n
    · rw [dl_get (by omega), dl_get h, Nat.pow_succ, Nat.mul_comm (b ^ i), ← Nat.div_div_eq_div_mul, Nat.add_mul_div_left _ _ hb, Nat.div_eq_of_lt hd, Nat.zero_add]
    · rw [List.getElem?_eq_none (by simp; omega), List.getElem?_eq_none (by simp; omega)]

/-- A word. -/
def W (x : Nat) : Value := .agg (ints .u64 (dl 18446744073709551616 4 x))
/-- The reference's 32 digits. -/
def D (x : Nat) : Value := .agg (ints .i64 (dl 256 32 x))

theorem W_congr {x y : Nat} (h : x = y) : W x = W y := by rw [h]
theorem W_mod (x : Nat) : W (x % 2 ^ 256) = W x := by
  unfold W
  rw [show (2 : Nat) ^ 256 = 18446744073709551616 ^ 4 by decide, dl_mod]
theorem D_mod (x : Nat) : D (x % 2 ^ 256) = D x := by
  unfold D
  rw [show (2 : Nat) ^ 256 = 256 ^ 32 by decide, dl_mod]
end Go.Proofs.YtonmkjcilepdcaaGreatDoor
