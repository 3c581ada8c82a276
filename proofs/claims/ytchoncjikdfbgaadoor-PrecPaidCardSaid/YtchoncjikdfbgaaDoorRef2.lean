import Derived.Test.YtchoncjikdfbgaaDoorRef1
/- The reference's bits and shifts. -/
namespace Go.Proofs.YtchoncjikdfbgaaDoor
open Go.RowKit
set_option maxRecDepth 10000
set_option maxHeartbeats 4000000

/-- A bit; 0 beyond. -/
def bitN (x : Nat) (n : Int) : Nat := if 0 ≤ n ∧ n ≤ 255 then x / 2 ^ n.toNat % 2 else 0
theorem bitN_lt (x : Nat) (n : Int) : bitN x n < 2 := by
  unfold bitN
  split
  · exact Nat.mod_lt _ (by omega)
  · omega
theorem bit_digit (x t e : Nat) (he : e < 8) : x / 256 ^ t % 256 / 2 ^ e % 2 = x / 2 ^ (8 * t + e) % 2 := by
  rw [← Nat.toNat_testBit, ← Nat.toNat_testBit, show 256 = 2 ^ 8 by decide, ← Nat.pow_mul, Nat.testBit_mod_two_pow, Nat.testBit_div_two_pow, Nat.add_comm e, decide_eq_true he, Bool.true_and]
theorem rbit_any (x : Nat) (n : Int) (w : World) : Fn Tryd.prog 72 #[D x, .int .i64 n] w fun v N => v = .int .i64 ((bitN x n : Nat) : Int) ∧ N = [] := by
  by_cases h1 : n < 0
  · refine Fn_of (args := [D x, .int .i64 n]) Tryd.func72 rfl Tryd.ntmps72 Tryd.results72 (by simp) ?_
    refine T_seq ?_
    refine T_region ?_
    refine S_boxA rfl rfl rfl fun _ => ?_
    refine S_val rfl rfl (Y_assign rfl) ?_
    refine S_nil ?_
    refine X_seq ?_
    refine T_seq ?_
    refine T_seq ?_
    refine T_region ?_
    refine S_val rfl rfl (Y_move rfl) ?_
    refine S_val rfl rfl (Y_lss_t rfl rfl (by assumption)) ?_
    refine S_val rfl rfl (Y_move rfl) ?_
    refine S_skip rfl rfl ?_
    refine S_skip rfl rfl ?_
    refine S_val rfl rfl (Y_pick_t rfl rfl) ?_
    refine S_nil ?_
    refine X_seq ?_
    refine T_cond_true rfl ?_
    refine T_seq ?_
    refine T_region ?_
    refine S_val rfl rfl (Y_assign rfl) ?_
    refine S_nil ?_
    refine X_seq ?_
    refine T_ret ?_
    refine X_seq_ret ?_
    ((first | refine X_fin_ret ?_ | refine X_fin ?_); exact ⟨[_], [], .cons (.tmp rfl) .nil, Emb.nil _, by unfold bitN; rw [if_neg (by omega)]; rfl, rfl⟩)
  · by_cases h2 : 255 < n
    · refine Fn_of (args := [D x, .int .i64 n]) Tryd.func72 rfl Tryd.ntmps72 Tryd.results72 (by simp) ?_
      refine T_seq ?_
      refine T_region ?_
      refine S_boxA rfl rfl rfl fun _ => ?_
      refine S_val rfl rfl (Y_assign rfl) ?_
      refine S_nil ?_
      refine X_seq ?_
      refine T_seq ?_
      refine T_seq ?_
      refine T_region ?_
      refine S_val rfl rfl (Y_move rfl) ?_
      refine S_val rfl rfl (Y_lss_f rfl rfl (by assumption)) ?_
      refine S_val rfl rfl (Y_move rfl) ?_
      refine S_val rfl rfl (Y_move rfl) ?_
      refine S_val rfl rfl (Y_gtr_t rfl rfl (by assumption)) ?_
      refine S_val rfl rfl (Y_pick_f rfl rfl) ?_
      refine S_nil ?_
      refine X_seq ?_
      refine T_cond_true rfl ?_
      refine T_seq ?_
      refine T_region ?_
      refine S_val rfl rfl (Y_assign rfl) ?_
      refine S_nil ?_
      refine X_seq ?_
      refine T_ret ?_
      refine X_seq_ret ?_
      ((first | refine X_fin_ret ?_ | refine X_fin ?_); exact ⟨[_], [], .cons (.tmp rfl) .nil, Emb.nil _, by unfold bitN; rw [if_neg (by omega)]; rfl, rfl⟩)
    · obtain ⟨j, rfl⟩ : ∃ j : Nat, n = j := ⟨n.toNat, by omega⟩
      refine Fn_of (args := [D x, .int .i64 j]) Tryd.func72 rfl Tryd.ntmps72 Tryd.results72 (by simp) ?_
      refine T_seq ?_
      refine T_region ?_
      refine S_boxA rfl rfl rfl fun _ => ?_
      refine S_val rfl rfl (Y_assign rfl) ?_
      refine S_nil ?_
      refine X_seq ?_
      refine T_seq ?_
      refine T_seq ?_
      refine T_region ?_
      refine S_val rfl rfl (Y_move rfl) ?_
      refine S_val rfl rfl (Y_lss_f rfl rfl (by assumption)) ?_
      refine S_val rfl rfl (Y_move rfl) ?_
      refine S_val rfl rfl (Y_move rfl) ?_
      refine S_val rfl rfl (Y_gtr_f rfl rfl (by assumption)) ?_
      refine S_val rfl rfl (Y_pick_f rfl rfl) ?_
      refine S_nil ?_
      refine X_seq ?_
      refine T_cond_false rfl ?_
      refine T_skip ?_
      refine X_seq ?_
      refine T_seq ?_
      refine T_region ?_
      refine S_val rfl rfl (Y_move rfl) ?_
      refine S_val rfl rfl (Y_quoN rfl rfl (nat_cast _) (nat_lit' _) (Nat.succ_ne_zero _) (by first | with_reducible exact xi64 (by omega) | with_reducible exact x64 (by omega) | with_reducible exact x8 (by omega) | with_reducible exact x32 (by omega))) ?_
      refine S_val rfl rfl (Y_ixa (und rfl) (siz rfl) rfl rfl (nat_cast _) (by omega)) ?_
      refine S_val rfl rfl (Y_loadI 0 (und rfl) rfl rfl rfl (dl_get (by omega))) ?_
      refine S_val rfl rfl (Y_assign rfl) ?_
      refine S_nil ?_
      refine X_seq ?_
      refine T_seq ?_
      refine T_seq ?_
      refine T_region ?_
      refine S_val rfl rfl (Y_assign rfl) ?_
      refine S_nil ?_
      refine X_seq ?_
      refine T_block ?_
      rename_i b0
      refine T_loop (α := Nat × Nat) (fun a => a.1 ≤ j % 8 ∧ a.2 = x / 256 ^ (j / 8) % 256 / 2 ^ a.1)
        (fun a => [(1, .int .i64 j), (2, .pointer (some ⟨b0, 0, none⟩)), (5, .int .i64 a.2), (6, .int .i64 a.1)])
        (fun _ => [blk b0 (.cells (ints .i64 (dl 256 32 (x))) 89 (0, 0))])
        (fun a => 8 - a.1) (0, x / 256 ^ (j / 8) % 256) (by simp) (by repeat (first | exact Env.sub_nil _ | (apply Env.sub_cons; rfl))) [] rfl ?_
      rintro ⟨k, v⟩ ⟨hk, hv⟩
      dsimp only at hk hv ⊢
      have hv' : v < 256 := by rw [hv]; exact Nat.lt_of_le_of_lt (Nat.div_le_self _ _) (dig256_lt x _)
      refine T_seq ?_
      refine T_seq ?_
      refine T_region ?_
      refine S_val rfl rfl (Y_move rfl) ?_
      refine S_val rfl rfl (Y_move rfl) ?_
      refine S_val rfl rfl (Y_remN rfl rfl (nat_cast _) (nat_lit' _) (Nat.succ_ne_zero _)) ?_
      refine S_val rfl rfl (Y_lss rfl rfl) ?_
      refine S_nil ?_
      refine X_seq ?_
      refine T_if rfl (fun h => ?_) (fun h => ?_)
      · refine T_skip ?_
        refine X_seq ?_
        refine T_seq ?_
        refine T_block ?_
        refine T_region ?_
        refine S_val rfl rfl (Y_move rfl) ?_
        refine S_val rfl rfl (Y_quoN rfl rfl (nat_cast _) (nat_lit' _) (Nat.succ_ne_zero _) (by first | with_reducible exact xi64 (by omega) | with_reducible exact x64 (by omega) | with_reducible exact x8 (by omega) | with_reducible exact x32 (by omega))) ?_
        refine S_val rfl rfl (Y_assign rfl) ?_
        refine S_nil ?_
        refine X_blk ?_
        refine X_seq ?_
        refine T_region ?_
        refine S_val rfl rfl (Y_move rfl) ?_
        refine S_val rfl rfl (Y_addN rfl rfl (nat_cast _) (nat_lit' _) (by omega)) ?_
        refine S_val rfl rfl (Y_assign rfl) ?_
        refine S_nil ?_
        refine X_loop ?_
        refine ⟨(k + 1, v / 2), ⟨by dsimp only; omega, by dsimp only; rw [hv, Nat.div_div_eq_div_mul, ← Nat.pow_succ]⟩, by dsimp only; omega, (by repeat (first | exact Env.sub_nil _ | (apply Env.sub_cons; rfl))), [], rfl⟩
      · obtain rfl : k = j % 8 := by omega
        refine T_exit ?_
        refine X_seq_exit ?_
        refine X_loop_exit ?_
        refine X_blk_hit rfl ?_
        refine X_seq ?_
        refine T_seq ?_
        refine T_region ?_
        refine S_val rfl rfl (Y_move rfl) ?_
        refine S_val rfl rfl (Y_remN rfl rfl (nat_cast _) (nat_lit' _) (Nat.succ_ne_zero _)) ?_
        refine S_val rfl rfl (Y_assign rfl) ?_
        refine S_nil ?_
        refine X_seq ?_
        refine T_ret ?_
        ((first | refine X_fin_ret ?_ | refine X_fin ?_); exact ⟨[_], [], .cons (.tmp rfl) .nil, Emb.nil _, by
                  unfold bitN
                  rw [if_pos (by omega), hv, bit_digit x _ _ (by omega), show 8 * (j / 8) + j % 8 = j by omega]; rfl, rfl⟩)

/-- The parts of a number whose bits from j on are in. -/
def bst (x j : Nat) : List Int := (List.range 32).map fun t => ((x / 256 ^ t % 256 / 2 ^ (j - 8 * t) : Nat) : Int)
theorem bst_get (x j t : Nat) (h : t < 32) : (bst x j)[t]? = some ((x / 256 ^ t % 256 / 2 ^ (j - 8 * t) : Nat) : Int) := by simp [bst, h]
@[simp] theorem bst_length (x j : Nat) : (bst x j).length = 32 := by simp [bst]
theorem bst_256 (x : Nat) : bst x 256 = List.replicate 32 0 := by
  have h : ∀ t, t < 32 → x / 256 ^ t % 256 / 2 ^ (256 - 8 * t) = 0 := fun t ht => by
    have h1 := dig256_lt x t
    have h2 : 2 ^ 8 ≤ 2 ^ (256 - 8 * t) := Nat.pow_le_pow_right (by omega) (by omega)
    exact Nat.div_eq_of_lt (by omega)
  unfold bst
  rw [List.map_congr_left (g := fun _ => (0 : Int)) fun t ht => by rw [h t (List.mem_range.1 ht)]; rfl]
  rfl
theorem bst_0 (x : Nat) : bst x 0 = dl 256 32 x := by
  unfold bst dl
  refine List.map_congr_left fun t _ => ?_
  rw [Nat.zero_sub, Nat.pow_zero, Nat.div_one]
theorem bst_step (x i : Nat) : x / 256 ^ (i / 8) % 256 / 2 ^ (i + 1 - 8 * (i / 8)) * 2 + x / 2 ^ i % 2 = x / 256 ^ (i / 8) % 256 / 2 ^ (i - 8 * (i / 8)) := by
  have h := bit_digit x (i / 8) (i % 8) (by omega)
  rw [show 8 * (i / 8) + i % 8 = i by omega] at h
  rw [← h, show i + 1 - 8 * (i / 8) = i % 8 + 1 by omega, show i - 8 * (i / 8) = i % 8 by omega, Nat.pow_succ, ← Nat.div_div_eq_div_mul]
  omega
theorem bst_set (x i : Nat) (_hi : i < 256) : (bst x (i + 1)).set (i / 8) ((x / 256 ^ (i / 8) % 256 / 2 ^ (i - 8 * (i / 8)) : Nat) : Int) = bst x i := by
  apply List.ext_getElem?
  intro t
  by_cases ht : t < 32
  · rw [List.getElem?_set, bst_get x i t ht, bst_get x (i + 1) t ht]
    split
    · rename_i h; subst h; simp [ht]
    · rename_i h
      by_cases hlt : t < i / 8
      · have h1 := dig256_lt x t
        have e1 : 2 ^ 8 ≤ 2 ^ (i + 1 - 8 * t) := Nat.pow_le_pow_right (by omega) (by omega)
        have e2 : 2 ^ 8 ≤ 2 ^ (i - 8 * t) := Nat.pow_le_pow_right (by omega) (by omega)
        rw [Nat.div_eq_of_lt (by omega), Nat.div_eq_of_lt (by omega)]
      · rw [show i + 1 - 8 * t = 0 by omega, show i - 8 * t = 0 by omega]
  · rw [List.getElem?_eq_none (by simp; omega), List.getElem?_eq_none (by simp; omega)]
/-- Shifted up, or, below 0, down. -/
def shN (x : Nat) (n : Int) : Nat := if 0 ≤ n then x * 2 ^ n.toNat % 2 ^ 256 else x / 2 ^ (-n).toNat
theorem shN_bit (x : Nat) (hx : x < 2 ^ 256) (n : Int) (i : Nat) (hi : i < 256) : shN x n / 2 ^ i % 2 = bitN x ((i : Int) - n) := by
  unfold shN bitN
  split
  · rename_i h
    rw [← Nat.toNat_testBit, Nat.testBit_mod_two_pow, decide_eq_true hi, Bool.true_and, Nat.testBit_mul_two_pow]
    split
    · rw [decide_eq_true (by omega), Bool.true_and, Nat.toNat_testBit, show i - n.toNat = ((i : Int) - n).toNat by omega]
    · rw [decide_eq_false (by omega), Bool.false_and]; rfl
  · rename_i h
    rw [Nat.div_div_eq_div_mul, ← Nat.pow_add, show (-n).toNat + i = ((i : Int) - n).toNat by omega]
    split
    · rfl
    · rw [Nat.div_eq_of_lt (Nat.lt_of_lt_of_le hx (Nat.pow_le_pow_right (by omega) (by omega)))]
end Go.Proofs.YtchoncjikdfbgaaDoor
