import Derived.Test.YtchoncjikdfbgaaDoorWord2
import Derived.Laws.MathBits
/- The calls of package word: shifts, how many bits, bytes. -/
namespace Go.Proofs.YtchoncjikdfbgaaDoor
open Go.RowKit
set_option maxRecDepth 10000
set_option maxHeartbeats 4000000

theorem partN_lt (x : Nat) (i : Int) : partN x i < 18446744073709551616 := by
  unfold partN
  split
  · exact digit_lt _ _
  · omega
theorem part_bit (x : Nat) (k : Int) (t : Nat) : (partN x k).testBit t = (decide (0 ≤ k ∧ k ≤ 3) && (decide (t < 64) && x.testBit (64 * k.toNat + t))) := by
  unfold partN
  split
  · rename_i h; rw [digit_bits]; simp [h]
  · rename_i h; simp [h]
theorem shl_digit (x n i : Nat) (hi : i < 4) : (partN x ((i : Int) - ((n / 64 : Nat) : Int)) * 2 ^ (n % 64) % 18446744073709551616 ||| partN x ((i : Int) - ((n / 64 : Nat) : Int) - 1) / 2 ^ (64 - n % 64)) = x * 2 ^ n / 18446744073709551616 ^ i % 18446744073709551616 := by
  apply Nat.eq_of_testBit_eq
  intro j
  rw [digit_bits, Nat.testBit_or, show (18446744073709551616 : Nat) = 2 ^ 64 by decide, Nat.testBit_mod_two_pow, Nat.testBit_mul_two_pow, Nat.testBit_div_two_pow, part_bit, part_bit, Nat.testBit_mul_two_pow]
  generalize hk : (i : Int) - ((n / 64 : Nat) : Int) = k
  by_cases hj : j < 64
  · rw [decide_eq_true hj]
    by_cases hl : n % 64 ≤ j
    · rw [decide_eq_false (show ¬ (j + (64 - n % 64) < 64) by omega), decide_eq_true (show n % 64 ≤ j from hl), decide_eq_true (show j - n % 64 < 64 by omega)]
      by_cases h2 : n ≤ 64 * i + j
      · rw [decide_eq_true (show 0 ≤ k ∧ k ≤ 3 by omega), decide_eq_true (show 64 * i + j ≥ n from h2), show 64 * k.toNat + (j - n % 64) = 64 * i + j - n by omega]
        simp
      · rw [decide_eq_false (show ¬ (0 ≤ k ∧ k ≤ 3) by omega), decide_eq_false (show ¬ (64 * i + j ≥ n) from h2)]
        simp
    · rw [decide_eq_true (show j + (64 - n % 64) < 64 by omega), decide_eq_false hl]
      by_cases h2 : n ≤ 64 * i + j
      · rw [decide_eq_true (show 0 ≤ k - 1 ∧ k - 1 ≤ 3 by omega), decide_eq_true (show 64 * i + j ≥ n from h2), show 64 * (k - 1).toNat + (j + (64 - n % 64)) = 64 * i + j - n by omega]
        simp
      · rw [decide_eq_false (show ¬ (0 ≤ k - 1 ∧ k - 1 ≤ 3) by omega), decide_eq_false (show ¬ (64 * i + j ≥ n) from h2)]
        simp
  · rw [decide_eq_false hj, decide_eq_false (show ¬ (j + (64 - n % 64) < 64) by omega)]
    simp
theorem shr_digit (x n i : Nat) (hx : x < 2 ^ 256) (hi : i < 4) : (partN x (((i + n / 64 : Nat) : Int)) / 2 ^ (n % 64) ||| partN x ((i + n / 64 + 1 : Nat) : Int) * 2 ^ (64 - n % 64) % 18446744073709551616) = x / 2 ^ n / 18446744073709551616 ^ i % 18446744073709551616 := by
  have hz : ∀ t, 256 ≤ t → x.testBit t = false := fun t ht => Nat.testBit_lt_two_pow (Nat.lt_of_lt_of_le hx (Nat.pow_le_pow_right (by omega) ht))
  apply Nat.eq_of_testBit_eq
  intro j
  rw [digit_bits, Nat.testBit_or, show (18446744073709551616 : Nat) = 2 ^ 64 by decide, Nat.testBit_mod_two_pow, Nat.testBit_mul_two_pow, Nat.testBit_div_two_pow, part_bit, part_bit, Nat.testBit_div_two_pow]
  generalize hk : ((i + n / 64 : Nat) : Int) = k
  generalize hk2 : ((i + n / 64 + 1 : Nat) : Int) = k2
  by_cases hj : j < 64
  · rw [decide_eq_true hj]
    by_cases hl : j + n % 64 < 64
    · rw [decide_eq_true hl, decide_eq_false (show ¬ (j ≥ 64 - n % 64) by omega)]
      by_cases h4 : 0 ≤ k ∧ k ≤ 3
      · rw [decide_eq_true h4, show 64 * k.toNat + (j + n % 64) = 64 * i + j + n by omega]
        simp
      · rw [decide_eq_false h4, hz (64 * i + j + n) (by omega)]
        simp
    · rw [decide_eq_false hl, decide_eq_true (show j ≥ 64 - n % 64 by omega), decide_eq_true (show j - (64 - n % 64) < 64 by omega)]
      by_cases h4 : 0 ≤ k2 ∧ k2 ≤ 3
      · rw [decide_eq_true h4, show 64 * k2.toNat + (j - (64 - n % 64)) = 64 * i + j + n by omega]
        simp
      · rw [decide_eq_false h4, hz (64 * i + j + n) (by omega)]
        simp
  · rw [decide_eq_false hj, decide_eq_false (show ¬ (j + n % 64 < 64) by omega)]
    simp

theorem shl_any (x n : Nat) (hn : n < 18446744073709551616) (w : World) : Fn Tryd.prog 69 #[W x, .int .u64 n] w fun v N => v = W (x * 2 ^ n % 2 ^ 256) ∧ N = [] := by
  by_cases h : n < 256
  · refine Fn_of (args := [W x, .int .u64 n]) Tryd.func69 rfl Tryd.ntmps69 Tryd.results69 (by simp) ?_
    refine T_seq ?_
    refine T_region ?_
    refine S_boxA rfl rfl rfl fun _ => ?_
    refine S_allocA (zer rfl) rfl rfl fun _ => ?_
    refine S_nil ?_
    refine X_seq ?_
    refine T_seq ?_
    refine T_seq ?_
    refine T_region ?_
    refine S_val rfl rfl (Y_move rfl) ?_
    refine S_val rfl rfl (Y_geq_f rfl rfl (by omega)) ?_
    refine S_nil ?_
    refine X_seq ?_
    refine T_cond_false rfl ?_
    refine T_skip ?_
    refine X_seq ?_
    refine T_seq ?_
    refine T_region ?_
    refine S_val rfl rfl (Y_move rfl) ?_
    refine S_val rfl rfl (Y_quoN rfl rfl (nat_cast _) (nat_lit' _) (Nat.succ_ne_zero _) (by first | with_reducible exact xi64 (by omega) | with_reducible exact x64 (by omega) | with_reducible exact x8 (by omega) | with_reducible exact x32 (by omega))) ?_
    refine S_val rfl rfl (Y_conv (und rfl) (und rfl) rfl (wi64 (by omega) (by omega))) ?_
    refine S_val rfl rfl (Y_move rfl) ?_
    refine S_val rfl rfl (Y_remN rfl rfl (nat_cast _) (nat_lit' _) (Nat.succ_ne_zero _)) ?_
    refine S_val rfl rfl (Y_assign rfl) ?_
    refine S_val rfl rfl (Y_assign rfl) ?_
    refine S_nil ?_
    refine X_seq ?_
    refine T_seq ?_
    refine T_region ?_
    refine S_allocA (zer rfl) rfl rfl fun _ => ?_
    refine S_nil ?_
    refine X_seq ?_
    refine T_seq ?_
    refine T_seq ?_
    refine T_region ?_
    refine S_val rfl rfl (Y_move rfl) ?_
    refine S_nil ?_
    refine X_seq ?_
    refine T_block ?_
    rename_i b0 b1 b2
    refine T_loop (α := Nat × Nat) (fun a => a.1 ≤ 4 ∧ a.2 = x * 2 ^ n % 18446744073709551616 ^ a.1)
      (fun a => [(2, .pointer (some ⟨b0, 0, none⟩)), (4, .pointer (some ⟨b1, 0, none⟩)), (5, .int .i64 ((n / 64 : Nat) : Int)), (6, .int .u64 ((n % 64 : Nat) : Int)), (7, .pointer (some ⟨b2, 0, none⟩)), (17, .int .i64 a.1)])
      (fun a => [blk b0 (.cells (ints .u64 (dl 18446744073709551616 4 (x))) 47 (0, 0)), blk b1 (.cells (ints .u64 (List.replicate 4 0)) 47 (0, 0)), blk b2 (.cells (ints .u64 (dl 18446744073709551616 4 (a.2))) 47 (0, 0))])
      (fun a => 4 - a.1) (0, 0) (by simp [Nat.mod_one]) (by repeat (first | exact Env.sub_nil _ | (apply Env.sub_cons; rfl))) [] rfl ?_
    rintro ⟨i, s⟩ ⟨hi, hs⟩
    dsimp only at hi hs ⊢
    by_cases h2 : i < 4
    · have hb1 := partN_lt x ((i : Int) - ((n / 64 : Nat) : Int) - 1)
      have hb2 : partN x ((i : Int) - ((n / 64 : Nat) : Int) - 1) / 2 ^ (64 - n % 64) < 18446744073709551616 := Nat.lt_of_le_of_lt (Nat.div_le_self _ _) hb1
      refine T_seq ?_
      refine T_region ?_
      refine S_val rfl rfl (Y_lss_t rfl rfl (by omega)) ?_
      refine S_nil ?_
      refine X_seq ?_
      refine T_seq ?_
      refine T_cond_true rfl ?_
      refine T_skip ?_
      refine X_seq ?_
      refine T_seq ?_
      refine T_block ?_
      refine T_seq ?_
      refine T_region ?_
      refine S_val rfl rfl (Y_move rfl) ?_
      refine S_val rfl rfl (Y_assign rfl) ?_
      refine S_nil ?_
      refine X_seq ?_
      refine T_draw (by kernel_rfl) (by kernel_rfl) rfl ?_
      refine D0_val rfl rfl rfl (Y_move rfl) ?_
      refine D0_valM rfl rfl rfl (Y_loadAI 0 (und rfl) rfl rfl rfl (siz rfl) (dl_length _ _ _)) ?_
      refine D0_val rfl rfl rfl (Y_move rfl) ?_
      refine D0_val rfl rfl rfl (Y_move rfl) ?_
      refine D0_val rfl rfl rfl (Y_sub rfl rfl (wi64 (by omega) (by omega))) ?_
      refine D0_callV rfl rfl (bod rfl) (fun w hs => part_any _ _ _) rfl rfl ?_
      refine D0_val rfl rfl rfl (Y_move rfl) ?_
      refine D0_val rfl rfl rfl (Y_shlN rfl rfl (nat_cast _) (nat_cast _) rfl pw64) ?_
      refine D0_valM rfl rfl rfl (Y_loadAI 0 (und rfl) rfl rfl rfl (siz rfl) (dl_length _ _ _)) ?_
      refine D0_val rfl rfl rfl (Y_move rfl) ?_
      refine D0_val rfl rfl rfl (Y_move rfl) ?_
      refine D0_val rfl rfl rfl (Y_sub rfl rfl (wi64 (by omega) (by omega))) ?_
      refine D0_val rfl rfl rfl (Y_sub rfl rfl (wi64 (by omega) (by omega))) ?_
      refine D0_callV rfl rfl (bod rfl) (fun w hs => part_any _ _ _) rfl rfl ?_
      refine D0_val rfl rfl rfl (Y_move rfl) ?_
      refine D0_val rfl rfl rfl (Y_subU rfl rfl (nat_lit' _) (nat_cast _) rfl (by omega) (by simp only [IntKind.bits]; omega)) ?_
      refine D0_val rfl rfl rfl (Y_shrN rfl rfl (nat_cast _) (nat_cast _) (by simp only [IntKind.bits]; assumption)) ?_
      refine D0_val rfl rfl rfl (Y_or rfl rfl (nat_cast _) (nat_cast _) rfl (by simp only [IntKind.bits]; omega) (by simp only [IntKind.bits]; assumption)) ?_
      refine D0_val rfl rfl rfl (Y_ixa (und rfl) (siz rfl) rfl rfl (nat_cast _) (by assumption)) ?_
      refine D0_storeI 2 rfl (siz rfl) rfl rfl rfl (by simp; omega) rfl rfl ?_
      refine D0_nil ?_
      refine X_blk ?_
      refine X_seq ?_
      refine T_region ?_
      refine S_val rfl rfl (Y_addN rfl rfl (nat_cast _) (nat_lit' _) (by omega)) ?_
      refine S_val rfl rfl (Y_move rfl) ?_
      refine S_nil ?_
      refine X_loop ?_
      refine ⟨(i + 1, x * 2 ^ n % 18446744073709551616 ^ (i + 1)), ⟨?_, rfl⟩, ?_, (by repeat (first | exact Env.sub_nil _ | (apply Env.sub_cons; rfl))), [], ?_⟩
      · dsimp only; omega
      · dsimp only; omega
      · have hd := digit_lt (x * 2 ^ n) i
        rw [shl_digit x n i h2, dl_set (by omega) (by rw [hs]; exact Nat.mod_lt _ (Nat.pow_pos (by omega))) hd, hs, ← mod_pow_succ']
        rfl
    · refine T_seq ?_
      refine T_region ?_
      refine S_val rfl rfl (Y_lss_f rfl rfl (by omega)) ?_
      refine S_nil ?_
      refine X_seq ?_
      refine T_seq ?_
      refine T_cond_false rfl ?_
      refine T_exit ?_
      refine X_seq_exit ?_
      refine X_loop_exit ?_
      refine X_blk_hit rfl ?_
      refine X_seq ?_
      refine T_seq ?_
      refine T_region ?_
      refine S_val rfl rfl (Y_loadAI 2 (und rfl) rfl rfl rfl (siz rfl) (dl_length _ _ _)) ?_
      refine S_storeAI 1 (siz rfl) rfl rfl rfl rfl (dl_length _ _ _) rfl ?_
      refine S_nil ?_
      refine X_seq ?_
      refine T_ret ?_
      obtain rfl : i = 4 := by omega
      ((first | refine X_fin_ret ?_ | refine X_fin ?_); exact ⟨[_], [], .cons (.agg 1 rfl (und rfl) rfl rfl (siz rfl)) .nil, Emb.nil _, by rw [hs, show (18446744073709551616 : Nat) ^ 4 = 2 ^ 256 by decide]; rfl, rfl⟩)
  · have hz : x * 2 ^ n % 2 ^ 256 = 0 := by
      obtain ⟨j, rfl⟩ : ∃ j, n = 256 + j := ⟨n - 256, by omega⟩
      rw [Nat.pow_add, Nat.mul_left_comm, Nat.mul_mod_right]
    refine Fn_of (args := [W x, .int .u64 n]) Tryd.func69 rfl Tryd.ntmps69 Tryd.results69 (by simp) ?_
    refine T_seq ?_
    refine T_region ?_
    refine S_boxA rfl rfl rfl fun _ => ?_
    refine S_allocA (zer rfl) rfl rfl fun _ => ?_
    refine S_nil ?_
    refine X_seq ?_
    refine T_seq ?_
    refine T_seq ?_
    refine T_region ?_
    refine S_val rfl rfl (Y_move rfl) ?_
    refine S_val rfl rfl (Y_geq_t rfl rfl (by omega)) ?_
    refine S_nil ?_
    refine X_seq ?_
    refine T_cond_true rfl ?_
    refine T_seq ?_
    refine T_region ?_
    refine S_val rfl rfl (Y_build (und rfl) (siz rfl) (zer rfl) rfl rfl) ?_
    refine S_storeAI 1 (siz rfl) rfl rfl rfl rfl rfl rfl ?_
    refine S_nil ?_
    refine X_seq ?_
    refine T_ret ?_
    refine X_seq_ret ?_
    ((first | refine X_fin_ret ?_ | refine X_fin ?_); exact ⟨[_], [], .cons (.agg 1 rfl (und rfl) rfl rfl (siz rfl)) .nil, Emb.nil _, by rw [hz]; rfl, rfl⟩)
def tabOk (s : ByteArray) : Bool := (List.range 256).all fun i => match s[i]? with | some c => Nat.beq c.toNat (bitLen i) | none => false
theorem tab_of {s : ByteArray} (h : tabOk s = true) (i : Nat) (hi : i < 256) : ∃ c, s[i]? = some c ∧ c.toNat = bitLen i := by
  have := List.all_eq_true.1 h i (List.mem_range.2 hi)
  split at this
  · rename_i c hc
    exact ⟨c, hc, Nat.eq_of_beq_eq_true this⟩
  · cases this
theorem Y_tab {C : Ctx} {E : Env} {L : Hp} {dst : Option Tmp} {ty : TypeId} {pos : String} {af : Array Edge} {g : Option (Nat × Bool)} {x y : Operand} {t : TypeId} {k : IntKind} {p : Int} {i : Nat} {s : ByteArray}
    (ht : C.P.underlying t = some .string) (hx : ev E x = some (.string s)) (hy : ev E y = some (.int k p)) (hp : IsNat p i) (hs : tabOk s = true) (hi : i < 256) : Yv C E L ⟨dst, .index t x y, ty, pos, af, g⟩ (.int .u8 ((min (bitLen i) 8 : Nat) : Int)) := by
  obtain ⟨c, h1, h2⟩ := tab_of hs i hi
  exact Y_indexS' ht hx hy hp h1 (by rw [h2, Nat.min_eq_left (bitLen_le8 i hi)])
theorem len64_any (x : Nat) (hx : x < 18446744073709551616) (w : World) : Fn Tryd.prog 45 #[.int .u64 x] w fun v N => v = .int .i64 ((bitLen x : Nat) : Int) ∧ N = [] := by
  refine Fn_of (args := [.int .u64 x]) Tryd.func45 rfl Tryd.ntmps45 Tryd.results45 (by simp) ?_
  refine T_seq ?_
  refine T_region ?_
  refine S_val rfl rfl (Y_assign rfl) ?_
  refine S_nil ?_
  refine X_seq ?_
  refine T_seq ?_
  refine T_seq ?_
  refine T_region ?_
  refine S_val rfl rfl (Y_move rfl) ?_
  refine S_val rfl rfl (Y_geq rfl rfl) ?_
  refine S_nil ?_
  refine X_seq ?_
  refine T_if rfl (fun h1 => ?_) (fun h1 => ?_)
  all_goals
    first | (refine T_seq ?_; refine T_region ?_; refine S_val rfl rfl (Y_move rfl) ?_; refine S_val rfl rfl (Y_shrN rfl rfl (by with_reducible exact nat_cast _) (nat_lit' _) (by simp only [IntKind.bits]; assumption)) ?_; refine S_val rfl rfl (Y_assign rfl) ?_; refine S_nil ?_; refine X_seq ?_; refine T_region ?_; refine S_val rfl rfl (Y_assign rfl) ?_; refine S_nil ?_; refine X_seq ?_; refine T_seq ?_; refine T_seq ?_; refine T_region ?_; refine S_val rfl rfl (Y_move rfl) ?_; refine S_val rfl rfl (Y_geq rfl rfl) ?_; refine S_nil ?_; refine X_seq ?_) | (refine T_skip ?_; refine X_seq ?_; refine T_seq ?_; refine T_seq ?_; refine T_region ?_; refine S_val rfl rfl (Y_move rfl) ?_; refine S_val rfl rfl (Y_geq rfl rfl) ?_; refine S_nil ?_; refine X_seq ?_)
    refine T_if rfl (fun h2 => ?_) (fun h2 => ?_)
  all_goals
    first | (refine T_seq ?_; refine T_region ?_; refine S_val rfl rfl (Y_move rfl) ?_; refine S_val rfl rfl (Y_shrN rfl rfl (by with_reducible exact nat_cast _) (nat_lit' _) (by simp only [IntKind.bits]; assumption)) ?_; refine S_val rfl rfl (Y_assign rfl) ?_; refine S_nil ?_; refine X_seq ?_; refine T_region ?_; refine S_val rfl rfl (Y_move rfl) ?_; refine S_val rfl rfl (Y_addN rfl rfl (nat_lit' _) (nat_lit' _) (Nat.le_of_ble_eq_true rfl)) ?_; refine S_val rfl rfl (Y_assign rfl) ?_; refine S_nil ?_; refine X_seq ?_; refine T_seq ?_; refine T_seq ?_; refine T_region ?_; refine S_val rfl rfl (Y_move rfl) ?_; refine S_val rfl rfl (Y_geq rfl rfl) ?_; refine S_nil ?_; refine X_seq ?_) | (refine T_seq ?_; refine T_region ?_; refine S_val rfl rfl (Y_move rfl) ?_; refine S_val rfl rfl (Y_shrN rfl rfl (by with_reducible exact nat_cast _) (nat_lit' _) (by simp only [IntKind.bits]; omega)) ?_; refine S_val rfl rfl (Y_assign rfl) ?_; refine S_nil ?_; refine X_seq ?_; refine T_region ?_; refine S_val rfl rfl (Y_move rfl) ?_; refine S_val rfl rfl (Y_addN rfl rfl (nat_lit' _) (nat_lit' _) (Nat.le_of_ble_eq_true rfl)) ?_; refine S_val rfl rfl (Y_assign rfl) ?_; refine S_nil ?_; refine X_seq ?_; refine T_seq ?_; refine T_seq ?_; refine T_region ?_; refine S_val rfl rfl (Y_move rfl) ?_; refine S_val rfl rfl (Y_geq rfl rfl) ?_; refine S_nil ?_; refine X_seq ?_) | (refine T_skip ?_; refine X_seq ?_; refine T_seq ?_; refine T_seq ?_; refine T_region ?_; refine S_val rfl rfl (Y_move rfl) ?_; refine S_val rfl rfl (Y_geq rfl rfl) ?_; refine S_nil ?_; refine X_seq ?_)
    refine T_if rfl (fun h3 => ?_) (fun h3 => ?_)
  all_goals
    first | (refine T_seq ?_; refine T_region ?_; refine S_val rfl rfl (Y_move rfl) ?_; refine S_val rfl rfl (Y_shrN rfl rfl (by with_reducible exact nat_cast _) (nat_lit' _) (by simp only [IntKind.bits]; assumption)) ?_; refine S_val rfl rfl (Y_assign rfl) ?_; refine S_nil ?_; refine X_seq ?_; refine T_region ?_; refine S_val rfl rfl (Y_move rfl) ?_; refine S_val rfl rfl (Y_addN rfl rfl (nat_lit' _) (nat_lit' _) (Nat.le_of_ble_eq_true rfl)) ?_; refine S_val rfl rfl (Y_assign rfl) ?_; refine S_nil ?_; refine X_seq ?_; refine T_seq ?_; refine T_region ?_; refine S_val rfl rfl (Y_move rfl) ?_; refine S_val rfl rfl (Y_move rfl) ?_; refine S_val rfl rfl (Y_conv (und rfl) (und rfl) rfl (wu8 (by omega) (by omega))) ?_) | (refine T_seq ?_; refine T_region ?_; refine S_val rfl rfl (Y_move rfl) ?_; refine S_val rfl rfl (Y_shrN rfl rfl (by with_reducible exact nat_cast _) (nat_lit' _) (by simp only [IntKind.bits]; omega)) ?_; refine S_val rfl rfl (Y_assign rfl) ?_; refine S_nil ?_; refine X_seq ?_; refine T_region ?_; refine S_val rfl rfl (Y_move rfl) ?_; refine S_val rfl rfl (Y_addN rfl rfl (by with_reducible exact nat_cast _) (nat_lit' _) (Nat.le_of_ble_eq_true rfl)) ?_; refine S_val rfl rfl (Y_assign rfl) ?_; refine S_nil ?_; refine X_seq ?_; refine T_seq ?_; refine T_region ?_; refine S_val rfl rfl (Y_move rfl) ?_; refine S_val rfl rfl (Y_move rfl) ?_; refine S_val rfl rfl (Y_conv (und rfl) (und rfl) rfl (wu8 (by omega) (by omega))) ?_) | (refine T_seq ?_; refine T_region ?_; refine S_val rfl rfl (Y_move rfl) ?_; refine S_val rfl rfl (Y_shrN rfl rfl (by with_reducible exact nat_cast _) (nat_lit' _) (by simp only [IntKind.bits]; omega)) ?_; refine S_val rfl rfl (Y_assign rfl) ?_; refine S_nil ?_; refine X_seq ?_; refine T_region ?_; refine S_val rfl rfl (Y_move rfl) ?_; refine S_val rfl rfl (Y_addN rfl rfl (nat_lit' _) (nat_lit' _) (Nat.le_of_ble_eq_true rfl)) ?_; refine S_val rfl rfl (Y_assign rfl) ?_; refine S_nil ?_; refine X_seq ?_; refine T_seq ?_; refine T_region ?_; refine S_val rfl rfl (Y_move rfl) ?_; refine S_val rfl rfl (Y_move rfl) ?_; refine S_val rfl rfl (Y_conv (und rfl) (und rfl) rfl (wu8 (by omega) (by omega))) ?_) | (refine T_skip ?_; refine X_seq ?_; refine T_seq ?_; refine T_region ?_; refine S_val rfl rfl (Y_move rfl) ?_; refine S_val rfl rfl (Y_move rfl) ?_; refine S_val rfl rfl (Y_conv (und rfl) (und rfl) rfl (wu8 (by omega) (by omega))) ?_)
    refine S_val rfl rfl (Y_tab (und rfl) rfl rfl (by first | with_reducible exact nat_cast _ | exact nat_lit' _) (by kernel_rfl) (by omega)) ?_
    first | (refine S_val rfl rfl (Y_conv (und rfl) (und rfl) rfl (wi64 (by omega) (by omega))) ?_; refine S_val rfl rfl (Y_addN rfl rfl (by with_reducible exact nat_cast _) (by with_reducible exact nat_cast _) (by omega)) ?_; refine S_val rfl rfl (Y_assign rfl) ?_; refine S_nil ?_; refine X_seq ?_; refine T_ret ?_) | (refine S_val rfl rfl (Y_conv (und rfl) (und rfl) rfl (wi64 (by omega) (by omega))) ?_; refine S_val rfl rfl (Y_addN rfl rfl (nat_lit' _) (by with_reducible exact nat_cast _) (by omega)) ?_; refine S_val rfl rfl (Y_assign rfl) ?_; refine S_nil ?_; refine X_seq ?_; refine T_ret ?_)
    (first | refine X_fin_ret ?_ | refine X_fin ?_)
    refine ⟨[_], [], .cons (.tmp rfl) .nil, Emb.nil _, int_congr ?_, rfl⟩
    try (have s32 := bitLen_shift x 32 (by omega))
    try (have s16 := bitLen_shift x 16 (by omega))
    try (have s8 := bitLen_shift x 8 (by omega))
    try (have s3216 := bitLen_shift (x / 2 ^ 32) 16 (by omega))
    try (have s328 := bitLen_shift (x / 2 ^ 32) 8 (by omega))
    try (have s168 := bitLen_shift (x / 2 ^ 16) 8 (by omega))
    try (have s32168 := bitLen_shift (x / 2 ^ 32 / 2 ^ 16) 8 (by omega))
    try (have l0 := bitLen_le8 x (by omega))
    try (have l1 := bitLen_le8 (x / 2 ^ 32) (by omega))
    try (have l2 := bitLen_le8 (x / 2 ^ 16) (by omega))
    try (have l3 := bitLen_le8 (x / 2 ^ 8) (by omega))
    try (have l4 := bitLen_le8 (x / 2 ^ 32 / 2 ^ 16) (by omega))
    try (have l5 := bitLen_le8 (x / 2 ^ 32 / 2 ^ 8) (by omega))
    try (have l6 := bitLen_le8 (x / 2 ^ 16 / 2 ^ 8) (by omega))
    try (have l7 := bitLen_le8 (x / 2 ^ 32 / 2 ^ 16 / 2 ^ 8) (by omega))
    omega

theorem bitLen_top (x j : Nat) (h : x / 18446744073709551616 ^ (j + 1) = 0) (h2 : x / 18446744073709551616 ^ j % 18446744073709551616 ≠ 0) : bitLen x = 64 * j + bitLen (x / 18446744073709551616 ^ j % 18446744073709551616) := by
  have e : x / 18446744073709551616 ^ j % 18446744073709551616 = x / 18446744073709551616 ^ j := by
    rw [Nat.pow_succ, ← Nat.div_div_eq_div_mul] at h
    omega
  rw [e] at h2 ⊢
  rw [show (18446744073709551616 : Nat) ^ j = 2 ^ (64 * j) by rw [Nat.pow_mul]] at h2 ⊢
  exact bitLen_shift x _ h2
theorem bitLen_le64 (x : Nat) (h : x < 18446744073709551616) : bitLen x ≤ 64 := by
  unfold bitLen
  split
  · omega
  · rename_i h0
    have := (Nat.log2_lt h0).2 (show x < 2 ^ 64 from h)
    omega
theorem len_any (x : Nat) (hx : x < 2 ^ 256) (w : World) : Fn Tryd.prog 28 #[W x] w fun v N => v = .int .i64 ((bitLen x : Nat) : Int) ∧ N = [] := by
  refine Fn_of (args := [W x]) Tryd.func28 rfl Tryd.ntmps28 Tryd.results28 (by simp) ?_
  refine T_seq ?_
  refine T_region ?_
  refine S_boxA rfl rfl rfl fun _ => ?_
  refine S_val rfl rfl (Y_assign rfl) ?_
  refine S_nil ?_
  refine X_seq ?_
  refine T_seq ?_
  refine T_seq ?_
  refine T_region ?_
  refine S_val rfl rfl (Y_assign rfl) ?_
  refine S_nil ?_
  refine X_seq ?_
  refine T_block ?_
  rename_i b0
  refine T_loop (α := Nat) (fun j => j ≤ 4 ∧ x / 18446744073709551616 ^ j = 0)
    (fun j => [(1, .pointer (some ⟨b0, 0, none⟩)), (3, .int .i64 ((j : Int) - 1))])
    (fun j => [blk b0 (.cells (ints .u64 (dl 18446744073709551616 4 (x))) 47 (0, 0))]) (fun j => j) 4 ⟨by omega, Nat.div_eq_of_lt (Nat.lt_of_lt_of_le hx (by decide))⟩ (by repeat (first | exact Env.sub_nil _ | (apply Env.sub_cons; rfl))) [] rfl ?_
  rintro j ⟨hj, hz⟩
  by_cases h : j = 0
  · subst h
    refine T_seq ?_
    refine T_seq ?_
    refine T_region ?_
    refine S_val rfl rfl (Y_move rfl) ?_
    refine S_val rfl rfl (Y_geq_f rfl rfl (by decide)) ?_
    refine S_nil ?_
    refine X_seq ?_
    refine T_cond_false rfl ?_
    refine T_exit ?_
    refine X_seq_exit ?_
    refine X_loop_exit ?_
    refine X_blk_hit rfl ?_
    refine X_seq ?_
    refine T_seq ?_
    refine T_region ?_
    refine S_val rfl rfl (Y_assign rfl) ?_
    refine S_nil ?_
    refine X_seq ?_
    refine T_ret ?_
    ((first | refine X_fin_ret ?_ | refine X_fin ?_); exact ⟨[_], [], .cons (.tmp rfl) .nil, Emb.nil _, by rw [show x = 0 by simpa using hz]; rfl, rfl⟩)
  · obtain ⟨i, rfl⟩ : ∃ i, j = i + 1 := ⟨j - 1, by omega⟩
    rw [show (((i + 1 : Nat) : Int) - 1) = (i : Int) by omega]
    have hd := digit_lt x i
    by_cases h0 : x / 18446744073709551616 ^ i % 18446744073709551616 = 0
    · refine T_seq ?_
      refine T_seq ?_
      refine T_region ?_
      refine S_val rfl rfl (Y_move rfl) ?_
      refine S_val rfl rfl (Y_geq_t rfl rfl (by omega)) ?_
      refine S_nil ?_
      refine X_seq ?_
      refine T_cond_true rfl ?_
      refine T_skip ?_
      refine X_seq ?_
      refine T_seq ?_
      refine T_block ?_
      refine T_seq ?_
      refine T_region ?_
      refine S_val rfl rfl (Y_move rfl) ?_
      refine S_val rfl rfl (Y_ixa (und rfl) (siz rfl) rfl rfl (nat_cast _) (by assumption)) ?_
      refine S_val rfl rfl (Y_loadI 0 (und rfl) rfl rfl rfl (dl_get (by assumption))) ?_
      refine S_val rfl rfl (Y_neq_f rfl rfl (by omega)) ?_
      refine S_nil ?_
      refine X_seq ?_
      refine T_cond_false rfl ?_
      refine T_skip ?_
      refine X_blk ?_
      refine X_seq ?_
      refine T_region ?_
      refine S_val rfl rfl (Y_move rfl) ?_
      refine S_val rfl rfl (Y_sub rfl rfl (wi64 (by omega) (by omega))) ?_
      refine S_val rfl rfl (Y_assign rfl) ?_
      refine S_nil ?_
      refine X_loop ?_
      have hz' : x / 18446744073709551616 ^ i = 0 := by
        rw [Nat.pow_succ, ← Nat.div_div_eq_div_mul] at hz
        omega
      exact ⟨i, ⟨by omega, hz'⟩, by omega, (by repeat (first | exact Env.sub_nil _ | (apply Env.sub_cons; rfl))), [], rfl⟩
    · have hl := bitLen_le64 _ hd
      have ht := bitLen_top x i hz h0
      refine T_seq ?_
      refine T_seq ?_
      refine T_region ?_
      refine S_val rfl rfl (Y_move rfl) ?_
      refine S_val rfl rfl (Y_geq_t rfl rfl (by omega)) ?_
      refine S_nil ?_
      refine X_seq ?_
      refine T_cond_true rfl ?_
      refine T_skip ?_
      refine X_seq ?_
      refine T_seq ?_
      refine T_block ?_
      refine T_seq ?_
      refine T_region ?_
      refine S_val rfl rfl (Y_move rfl) ?_
      refine S_val rfl rfl (Y_ixa (und rfl) (siz rfl) rfl rfl (nat_cast _) (by assumption)) ?_
      refine S_val rfl rfl (Y_loadI 0 (und rfl) rfl rfl rfl (dl_get (by assumption))) ?_
      refine S_val rfl rfl (Y_neq_t rfl rfl (by omega)) ?_
      refine S_nil ?_
      refine X_seq ?_
      refine T_cond_true rfl ?_
      refine T_seq ?_
      refine T_region ?_
      refine S_val rfl rfl (Y_move rfl) ?_
      refine S_val rfl rfl (Y_mulN rfl rfl (nat_lit' _) (nat_cast _) (by omega)) ?_
      refine S_val rfl rfl (Y_move rfl) ?_
      refine S_val rfl rfl (Y_ixa (und rfl) (siz rfl) rfl rfl (nat_cast _) (by assumption)) ?_
      refine S_val rfl rfl (Y_loadI 0 (und rfl) rfl rfl rfl (dl_get (by assumption))) ?_
      refine S_callV rfl rfl (bod rfl) (fun w hs => len64_any _ hd _) rfl rfl ?_
      refine S_val rfl rfl (Y_addN rfl rfl (nat_cast _) (nat_cast _) (by omega)) ?_
      refine S_val rfl rfl (Y_assign rfl) ?_
      refine S_nil ?_
      refine X_seq ?_
      refine T_ret ?_
      refine X_blk_ret ?_
      refine X_seq_ret ?_
      refine X_loop_ret ?_
      refine X_blk_ret ?_
      refine X_seq_ret ?_
      ((first | refine X_fin_ret ?_ | refine X_fin ?_); exact ⟨[_], [], .cons (.tmp rfl) .nil, Emb.nil _, int_congr (by rw [ht]), rfl⟩)
end Go.Proofs.YtchoncjikdfbgaaDoor
