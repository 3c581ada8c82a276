import Derived.Test.YtchoncjikdfbgaaDoorRef2
/- Bytes, and how numbers stand. -/
namespace Go.Proofs.YtchoncjikdfbgaaDoor
open Go.RowKit
set_option maxRecDepth 10000
set_option maxHeartbeats 4000000

/-- Bytes, the highest first. -/
def be (x : Nat) : List Int := (dl 256 32 x).reverse
@[simp] theorem be_length (x : Nat) : (be x).length = 32 := by simp [be]
theorem be_get {x i : Nat} (h : i < 32) : (be x)[i]? = some ((x / 256 ^ (31 - i) % 256 : Nat) : Int) := by
  unfold be
  rw [List.getElem?_reverse (by simpa using h), dl_length, dl_get (by omega)]
theorem be_set {x d i : Nat} (hx : x < 256 ^ i) (hd : d < 256) (hi : i < 32) : (be x).set (31 - i) ((d : Nat) : Int) = be (x + d * 256 ^ i) := by
  apply List.ext_getElem?
  intro t
  rw [List.getElem?_set, be_length]
  by_cases ht : t < 32
  · rw [be_get ht, be_get ht, digit_add_lt (by omega) hx hd]
    by_cases h : 31 - i = t
    · subst h
      rw [if_pos rfl, if_pos (by omega), if_neg (by omega), if_pos (by omega)]
    · rw [if_neg h]
      split
      · rfl
      · rename_i h2
        rw [if_neg (by omega), Nat.div_eq_of_lt (Nat.lt_of_lt_of_le hx (Nat.pow_le_pow_right (by omega) (by omega)))]
  · rw [List.getElem?_eq_none (by simp; omega), List.getElem?_eq_none (by simp; omega)]
    split
    · rw [if_neg (by omega)]
    · rfl
theorem be_zero : be 0 = List.replicate 32 0 := by decide +kernel
def BE (x : Nat) : Value := .agg (ints .u8 (be x))
end Go.Proofs.YtchoncjikdfbgaaDoor
