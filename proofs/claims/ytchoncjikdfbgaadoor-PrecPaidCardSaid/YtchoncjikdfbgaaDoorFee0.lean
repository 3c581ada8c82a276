import Derived.Test.YtchoncjikdfbgaaDoorWide1
/- Long division, bit by bit: the plain laws. -/
namespace Go.Proofs.YtchoncjikdfbgaaDoor
open Go.RowKit
set_option maxRecDepth 20000
set_option maxHeartbeats 4000000

/-- A bit that is laid into a number whose bits up to it are 0. -/
theorem dl_orbit {Q i : Nat} (_hi : i < 256) (hQ : Q % 2 ^ (i + 1) = 0) : (dl 18446744073709551616 4 Q).set (i / 64) ((Q / 18446744073709551616 ^ (i / 64) % 18446744073709551616 ||| 1 * 2 ^ (i % 64) % 18446744073709551616 : Nat) : Int) = dl 18446744073709551616 4 (Q + 2 ^ i) := by
  have he : 2 ^ (i % 64) < 18446744073709551616 := by
    have : 2 ^ (i % 64) < 2 ^ 64 := Nat.pow_lt_pow_right (by omega) (by omega)
    exact this
  rw [Nat.one_mul, Nat.mod_eq_of_lt he]
  have hp : (2 : Nat) ^ i = 2 ^ (i % 64) * 18446744073709551616 ^ (i / 64) := by
    rw [show (18446744073709551616 : Nat) = 2 ^ 64 by decide, ← Nat.pow_mul, ← Nat.pow_add]
    congr 1
    omega
  obtain ⟨k, rfl⟩ : ∃ k, Q = 2 ^ (i + 1) * k := ⟨Q / 2 ^ (i + 1), by have := Nat.div_add_mod Q (2 ^ (i + 1)); omega⟩
  have hd : 2 ^ (i + 1) * k / 18446744073709551616 ^ (i / 64) = 2 ^ (i % 64 + 1) * k := by
    rw [Nat.pow_succ, hp, Nat.pow_succ, show 2 ^ (i % 64) * 18446744073709551616 ^ (i / 64) * 2 * k = 18446744073709551616 ^ (i / 64) * (2 ^ (i % 64) * 2 * k) by
      rw [Nat.mul_comm (2 ^ (i % 64)), Nat.mul_assoc, Nat.mul_assoc, Nat.mul_assoc], Nat.mul_div_cancel_left _ (Nat.pow_pos (by omega))]
  have hm : ∃ k', 2 ^ (i % 64 + 1) * k % 18446744073709551616 = 2 ^ (i % 64 + 1) * k' := by
    refine ⟨k % 2 ^ (63 - i % 64), ?_⟩
    have : (18446744073709551616 : Nat) = 2 ^ (i % 64 + 1) * 2 ^ (63 - i % 64) := by
      rw [← Nat.pow_add, show i % 64 + 1 + (63 - i % 64) = 64 by omega]
    rw [this, Nat.mul_mod_mul_left]
  obtain ⟨k', hk'⟩ := hm
  have hor : 2 ^ (i % 64 + 1) * k' ||| 2 ^ (i % 64) = 2 ^ (i % 64 + 1) * k' + 2 ^ (i % 64) := by
    rw [Nat.two_pow_add_eq_or_of_lt (Nat.pow_lt_pow_right (by omega) (by omega))]
  have hlt : 2 ^ (i % 64 + 1) * k' + 2 ^ (i % 64) < 18446744073709551616 := by
    rw [← hor, ← hk']
    exact Nat.or_lt_two_pow (n := 64) (Nat.mod_lt _ (by omega)) he
  rw [hd, hk', hor, dl_put (by omega) hlt, hd, hk', hp]
  congr 1
  have h1 : 2 ^ (i % 64 + 1) * k' * 18446744073709551616 ^ (i / 64) ≤ 2 ^ (i + 1) * k := by
    rw [← hk', ← hd]
    exact Nat.le_trans (Nat.mul_le_mul_right _ (Nat.mod_le _ _)) (Nat.div_mul_le_self _ _)
  rw [Nat.add_mul]
  omega
theorem dl_or1 {Q : Nat} (hQ : Q % 2 = 0) : (dl 18446744073709551616 4 Q).set 0 ((Q / 18446744073709551616 ^ 0 % 18446744073709551616 ||| 1 : Nat) : Int) = dl 18446744073709551616 4 (Q + 1) :=
  dl_orbit (i := 0) (by omega) hQ

/-- A step of the long division, bit by bit. -/
theorem bit_step {N y i : Nat} (hy : 0 < y) : N / 2 ^ i = 2 * (N / 2 ^ (i + 1)) + N / 2 ^ i % 2 ∧
    N / 2 ^ i / y = 2 * (N / 2 ^ (i + 1) / y) + (2 * (N / 2 ^ (i + 1) % y) + N / 2 ^ i % 2) / y ∧ N / 2 ^ i % y = (2 * (N / 2 ^ (i + 1) % y) + N / 2 ^ i % 2) % y := by
  have e : N / 2 ^ i = 2 * (N / 2 ^ (i + 1)) + N / 2 ^ i % 2 := by
    rw [Nat.pow_succ, ← Nat.div_div_eq_div_mul]
    omega
  have e2 : N / 2 ^ i = (2 * (N / 2 ^ (i + 1) % y) + N / 2 ^ i % 2) + (2 * (N / 2 ^ (i + 1) / y)) * y := by
    have h := Nat.div_add_mod (N / 2 ^ (i + 1)) y
    have h3 : 2 * (N / 2 ^ (i + 1) / y) * y = 2 * (y * (N / 2 ^ (i + 1) / y)) := by rw [Nat.mul_assoc, Nat.mul_comm y]
    rw [h3]
    omega
  refine ⟨e, ?_, ?_⟩
  · conv => lhs; rw [e2]
    rw [Nat.add_mul_div_right _ _ hy, Nat.add_comm]
  · conv => lhs; rw [e2]
    rw [Nat.add_mul_mod_self_right]
theorem low_bit (hi lo i : Nat) (h : i < 256) : lo.testBit i = decide ((hi * 2 ^ 256 + lo) / 2 ^ i % 2 = 1) := by
  have h1 : (hi * 2 ^ 256 + lo) % 2 ^ 256 = lo % 2 ^ 256 := by rw [Nat.add_comm, Nat.add_mul_mod_self_right]
  have h2 : lo.testBit i = (hi * 2 ^ 256 + lo).testBit i := by
    have a1 := Nat.testBit_mod_two_pow (hi * 2 ^ 256 + lo) 256 i
    have a2 := Nat.testBit_mod_two_pow lo 256 i
    rw [h1, a2] at a1
    simpa [h] using a1
  rw [h2, Nat.testBit_eq_decide_div_mod_eq]

theorem W_ne {x y : Nat} (hx : x < 2 ^ 256) (hy : y < 2 ^ 256) (h : x ≠ y) : ¬ dl 18446744073709551616 4 x = dl 18446744073709551616 4 y := fun e => h (dl_inj (by omega) (Nat.lt_of_lt_of_le hx (by decide)) (Nat.lt_of_lt_of_le hy (by decide)) e)
end Go.Proofs.YtchoncjikdfbgaaDoor
