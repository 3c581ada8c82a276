import Derived.Test.YtchoncjikdfbgaaGreatRef2
/- Bytes, and how numbers stand. -/
namespace Go.Proofs.YtchoncjikdfbgaaGreat
open Go.RowKit
set_option maxRecDepth 10000
set_option maxHeartbeats 4000000

/-- Bytes, the highest first. -/
def be (x : Nat) : List Int := (dl 256 32 x).reverse
@[simp] theorem be_length (x : Nat) : (be x).length = 32 := by simp [be]
theorem be_get {x i : Nat} (h : i < 32) : (be x)[i]? = some ((x / 256 ^ (31 - i) % 256 : Nat) : Int) := by
  unfold be
  rw [List.getElem?_reverse (by simpa using h), dl_length, dl_get (by omega)]
theorem be_set {x d i : Nat} (hx : x < 256 ^ i) (hd : d < 256) (hi : i < 32) : (be x).set (31 - i) ((d : Nat) : Int) = be (x + d * 256 ^ i) := by
  apply List.ext_getElem?
  intro t
  rw [List.getElem?_set, be_length]
  by_cases ht : t < 32
  · rw [be_get ht, be_get ht, digit_add_lt (by omega) hx hd]
    by_cases h : 31 - i = t
    · subst h
      rw [if_pos rfl, if_pos (by omega), if_neg (by omega), if_pos (by omega)]
    · rw [if_neg h]
      split
      · rfl
      · rename_i h2
        rw [if_neg (by omega), Nat.div_eq_of_lt (Nat.lt_of_lt_of_le hx (Nat.pow_le_pow_right (by omega) (by omega)))]
  · rw [List.getElem?_eq_none (by simp; omega), List.getElem?_eq_none (by simp; omega)]
    split
    · rw [if_neg (by omega)]
    · rfl
theorem be_zero : be 0 = List.replicate 32 0 := by decide +kernel
def BE (x : Nat) : Value := .agg (ints .u8 (be x))
theorem wbytes_any (x : Nat) (_hx : x < 2 ^ 256) (w : World) : Fn Tryz.prog 101 #[W x] w fun v N => v = BE x ∧ N = [] := by
  refine Fn_of (args := [W x]) Tryz.func101 rfl Tryz.ntmps101 Tryz.results101 (by simp) ?_
  refine T_seq ?_
  refine T_region ?_
  refine S_boxA rfl rfl rfl fun _ => ?_
  refine S_allocA (zer rfl) rfl rfl fun _ => ?_
  refine S_nil ?_
  refine X_seq ?_
  refine T_seq ?_
  refine T_region ?_
  refine S_allocA (zer rfl) rfl rfl fun _ => ?_
  refine S_nil ?_
  refine X_seq ?_
  refine T_seq ?_
  refine T_seq ?_
  refine T_region ?_
  refine S_val rfl rfl (Y_loadAI 0 (und rfl) rfl rfl rfl (siz rfl) (dl_length _ _ _)) ?_
  refine S_val rfl rfl (Y_move rfl) ?_
  refine S_nil ?_
  refine X_seq ?_
  refine T_block ?_
  rename_i b0 b1 b2
  refine T_loop (α := Nat × Nat) (fun a => a.1 ≤ 4 ∧ a.2 = x % 256 ^ (8 * a.1))
    (fun a => [(1, .pointer (some ⟨b0, 0, none⟩)), (2, .pointer (some ⟨b1, 0, none⟩)), (3, .pointer (some ⟨b2, 0, none⟩)), (7, .agg (ints .u64 (dl 18446744073709551616 4 x))), (8, .int .i64 a.1)])
    (fun a => [blk b0 (.cells (ints .u64 (dl 18446744073709551616 4 (x))) 24 (0, 0)), blk b1 (.cells (ints .u8 (List.replicate 32 0)) 83 (0, 0)), blk b2 (.cells (ints .u8 (be a.2)) 83 (0, 0))])
    (fun a => 4 - a.1) (0, 0) (by simp [Nat.mod_one]) (by repeat (first | exact Env.sub_nil _ | (apply Env.sub_cons; rfl))) [] (by rw [be_zero]; rfl) ?_
  rintro ⟨i, s⟩ ⟨hi, hs⟩
  dsimp only at hi hs ⊢
  have hd := digit_lt x i
  refine T_seq ?_
  refine T_region ?_
  refine S_val rfl rfl (Y_lss rfl rfl) ?_
  refine S_nil ?_
  refine X_seq ?_
  refine T_seq ?_
  refine T_if rfl (fun h => ?_) (fun h => ?_)
  · refine T_skip ?_
    refine X_seq ?_
    refine T_seq ?_
    refine T_block ?_
    refine T_seq ?_
    refine T_region ?_
    refine S_val rfl rfl (Y_move rfl) ?_
    refine S_val rfl rfl (Y_index (und rfl) (siz rfl) (und rfl) rfl rfl rfl (nat_cast _) (by omega) (dl_get (by omega))) ?_
    refine S_val rfl rfl (Y_assign rfl) ?_
    refine S_val rfl rfl (Y_assign rfl) ?_
    refine S_nil ?_
    refine X_seq ?_
    refine T_seq ?_
    refine T_region ?_
    refine S_val rfl rfl (Y_move rfl) ?_
    refine S_nil ?_
    refine X_seq ?_
    refine T_block ?_
    refine T_loop (α := Nat × Nat) (fun a => a.1 ≤ 8 ∧ a.2 = x % 256 ^ (8 * i + a.1))
      (fun a => [(1, .pointer (some ⟨b0, 0, none⟩)), (2, .pointer (some ⟨b1, 0, none⟩)), (3, .pointer (some ⟨b2, 0, none⟩)), (4, .int .i64 i), (5, .int .u64 ((x / 18446744073709551616 ^ i % 18446744073709551616 : Nat) : Int)), (7, .agg (ints .u64 (dl 18446744073709551616 4 x))), (8, .int .i64 i), (12, .int .i64 a.1)])
      (fun a => [blk b0 (.cells (ints .u64 (dl 18446744073709551616 4 (x))) 24 (0, 0)), blk b1 (.cells (ints .u8 (List.replicate 32 0)) 83 (0, 0)), blk b2 (.cells (ints .u8 (be a.2)) 83 (0, 0))])
      (fun a => 8 - a.1) (0, s) (by simpa using hs) (by repeat (first | exact Env.sub_nil _ | (apply Env.sub_cons; rfl))) [] rfl ?_
    rintro ⟨k, t⟩ ⟨hk, ht⟩
    dsimp only at hk ht ⊢
    refine T_seq ?_
    refine T_region ?_
    refine S_val rfl rfl (Y_lss rfl rfl) ?_
    refine S_nil ?_
    refine X_seq ?_
    refine T_seq ?_
    refine T_if rfl (fun h2 => ?_) (fun h2 => ?_)
    · refine T_skip ?_
      refine X_seq ?_
      refine T_seq ?_
      refine T_block ?_
      refine T_seq ?_
      refine T_region ?_
      refine S_val rfl rfl (Y_move rfl) ?_
      refine S_val rfl rfl (Y_assign rfl) ?_
      refine S_nil ?_
      refine X_seq ?_
      refine T_region ?_
      refine S_val rfl rfl (Y_move rfl) ?_
      refine S_val rfl rfl (Y_mulN rfl rfl (nat_lit' _) (nat_cast _) (by omega)) ?_
      refine S_val rfl rfl (Y_subN rfl rfl (nat_lit' _) (nat_cast _) (by omega) (Nat.le_of_ble_eq_true rfl)) ?_
      refine S_val rfl rfl (Y_move rfl) ?_
      refine S_val rfl rfl (Y_subN rfl rfl (nat_cast _) (nat_cast _) (by omega) (by omega)) ?_
      refine S_val rfl rfl (Y_move rfl) ?_
      refine S_val rfl rfl (Y_move rfl) ?_
      refine S_val rfl rfl (Y_mulN rfl rfl (nat_lit' _) (nat_cast _) (by omega)) ?_
      refine S_val rfl rfl (Y_shrN rfl rfl (nat_cast _) (nat_cast _) (by simp only [IntKind.bits]; assumption)) ?_
      refine S_val rfl rfl (Y_conv (und rfl) (und rfl) rfl wu8n) ?_
      refine S_val rfl rfl (Y_ixa (und rfl) (siz rfl) rfl rfl (nat_cast _) (by omega)) ?_
      refine S_storeI 2 (siz rfl) rfl rfl rfl (by simp; omega) rfl rfl ?_
      refine S_nil ?_
      refine X_blk ?_
      refine X_seq ?_
      refine T_region ?_
      refine S_val rfl rfl (Y_addN rfl rfl (nat_cast _) (nat_lit' _) (by omega)) ?_
      refine S_val rfl rfl (Y_move rfl) ?_
      refine S_nil ?_
      refine X_loop ?_
      refine ⟨(k + 1, x % 256 ^ (8 * i + (k + 1))), ⟨by dsimp only; omega, rfl⟩, by dsimp only; omega, (by repeat (first | exact Env.sub_nil _ | (apply Env.sub_cons; rfl))), [], ?_⟩
      rw [← Nat.add_assoc, mod_pow_succ', ← ht, ← be_set (by rw [ht]; exact Nat.mod_lt _ (Nat.pow_pos (by omega))) (dig256_lt x _) (by omega), ← byte_digit x i k (by omega), show 31 - (8 * i + k) = 31 - 8 * i - k by omega,
        show (256 : Nat) ^ k = 2 ^ (8 * k) by rw [Nat.pow_mul]]
      rfl
    · obtain rfl : k = 8 := by omega
      refine T_exit ?_
      refine X_seq_exit ?_
      refine X_loop_exit ?_
      refine X_blk_hit rfl ?_
      refine X_blk ?_
      refine X_seq ?_
      refine T_region ?_
      refine S_val rfl rfl (Y_addN rfl rfl (nat_cast _) (nat_lit' _) (by omega)) ?_
      refine S_val rfl rfl (Y_move rfl) ?_
      refine S_nil ?_
      refine X_loop ?_
      refine ⟨(i + 1, t), ⟨by dsimp only; omega, by dsimp only; rw [ht, Nat.mul_add]⟩, by dsimp only; omega, (by repeat (first | exact Env.sub_nil _ | (apply Env.sub_cons; rfl))), [], rfl⟩
  · obtain rfl : i = 4 := by omega
    refine T_exit ?_
    refine X_seq_exit ?_
    refine X_loop_exit ?_
    refine X_blk_hit rfl ?_
    refine X_seq ?_
    refine T_seq ?_
    refine T_region ?_
    refine S_val rfl rfl (Y_loadAI 2 (und rfl) rfl rfl rfl (siz rfl) rfl) ?_
    refine S_storeAI 1 (siz rfl) rfl rfl rfl rfl rfl rfl ?_
    refine S_nil ?_
    refine X_seq ?_
    refine T_ret ?_
    ((first | refine X_fin_ret ?_ | refine X_fin ?_); exact ⟨[_], [], .cons (.agg 1 rfl (und rfl) rfl rfl (siz rfl)) .nil, Emb.nil _, by unfold BE be; rw [hs, show 8 * 4 = 32 by decide, dl_mod]; rfl, rfl⟩)
end Go.Proofs.YtchoncjikdfbgaaGreat
