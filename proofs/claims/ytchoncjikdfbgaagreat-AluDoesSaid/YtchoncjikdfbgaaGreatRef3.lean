import Derived.Test.YtchoncjikdfbgaaGreatRef2
/- The reference's and, or, xor. -/
namespace Go.Proofs.YtchoncjikdfbgaaGreat
open Go.RowKit
set_option maxRecDepth 10000
set_option maxHeartbeats 4000000

theorem bitN_nat (x i : Nat) (hi : i < 256) : bitN x i = x / 2 ^ i % 2 := by
  unfold bitN
  rw [if_pos (by omega), Int.toNat_natCast]
def isBit (k : Int) (s : Nat) : Prop := (k = 0 ∧ s = 2) ∨ (k = 1 ∧ 0 < s) ∨ (k = 2 ∧ s = 1)
theorem rlogic_any (x y z : Nat) (k : Int) (hk : k = 0 ∨ k = 1 ∨ k = 2) (h1 : ∀ i : Nat, i < 256 → isBit k (bitN x i + bitN y i) → z / 2 ^ i % 2 = 1) (h0 : ∀ i : Nat, i < 256 → ¬ isBit k (bitN x i + bitN y i) → z / 2 ^ i % 2 = 0) (w : World) :
    Fn Tryz.prog 20 #[D x, D y, .int .i64 k] w fun v N => v = D z ∧ N = [] := by
  refine Fn_of (args := [D x, D y, .int .i64 k]) Tryz.func20 rfl Tryz.ntmps20 Tryz.results20 (by simp) ?_
  refine T_seq ?_
  refine T_region ?_
  refine S_boxA rfl rfl rfl fun _ => ?_
  refine S_boxA rfl rfl rfl fun _ => ?_
  refine S_allocA (zer rfl) rfl rfl fun _ => ?_
  refine S_nil ?_
  refine X_seq ?_
  refine T_seq ?_
  refine T_region ?_
  refine S_val rfl rfl (Y_build (und rfl) (siz rfl) (zer rfl) rfl rfl) ?_
  refine S_allocA (zer rfl) rfl rfl fun _ => ?_
  refine S_storeAI 3 (siz rfl) rfl rfl rfl rfl rfl rfl ?_
  refine S_nil ?_
  refine X_seq ?_
  refine T_seq ?_
  refine T_seq ?_
  refine T_region ?_
  refine S_val rfl rfl (Y_assign rfl) ?_
  refine S_nil ?_
  refine X_seq ?_
  refine T_block ?_
  rename_i b0 b1 b2 b3
  refine T_loop (α := Nat × Nat) (fun a => a.1 ≤ 256 ∧ a.2 = z % 2 ^ a.1)
    (fun a => [(2, .int .i64 k), (3, .pointer (some ⟨b0, 0, none⟩)), (4, .pointer (some ⟨b1, 0, none⟩)), (6, .pointer (some ⟨b2, 0, none⟩)), (7, .pointer (some ⟨b3, 0, none⟩)), (8, .int .i64 a.1)])
    (fun a => [blk b0 (.cells (ints .i64 (dl 256 32 (x))) 36 (0, 0)), blk b1 (.cells (ints .i64 (dl 256 32 (y))) 36 (0, 0)), blk b2 (.cells (ints .i64 (List.replicate 32 0)) 36 (0, 0)), blk b3 (.cells (ints .i64 (dl 2 256 a.2)) 59 (0, 0))])
    (fun a => 256 - a.1) (0, 0) (by simp [Nat.mod_one]) (by repeat (first | exact Env.sub_nil _ | (apply Env.sub_cons; rfl))) [] rfl ?_
  rintro ⟨i, s⟩ ⟨hi, hs⟩
  dsimp only at hi hs ⊢
  have hx := bitN_lt x i
  have hy := bitN_lt y i
  refine T_seq ?_
  refine T_seq ?_
  refine T_region ?_
  refine S_val rfl rfl (Y_move rfl) ?_
  refine S_val rfl rfl (Y_lss rfl rfl) ?_
  refine S_nil ?_
  refine X_seq ?_
  refine T_if rfl (fun h => ?_) (fun h => ?_)
  · by_cases hc : isBit k (bitN x i + bitN y i)
    · have hz := h1 i (by omega) hc
      unfold isBit at hc
      rcases hc with ⟨rfl, hb⟩ | ⟨rfl, hb⟩ | ⟨rfl, hb⟩
      all_goals
        refine T_skip ?_
        refine X_seq ?_
        refine T_seq ?_
        refine T_block ?_
        refine T_seq ?_
        refine T_draw (by kernel_rfl) (by kernel_rfl) rfl ?_
        refine D0_valM rfl rfl rfl (Y_loadAI 0 (und rfl) rfl rfl rfl (siz rfl) (dl_length _ _ _)) ?_
        refine D0_val rfl rfl rfl (Y_move rfl) ?_
        refine D0_callV rfl rfl (bod rfl) (fun w hs => rbit_any x i _) rfl rfl ?_
        refine D0_valM rfl rfl rfl (Y_loadAI 1 (und rfl) rfl rfl rfl (siz rfl) (dl_length _ _ _)) ?_
        refine D0_val rfl rfl rfl (Y_move rfl) ?_
        refine D0_callV rfl rfl (bod rfl) (fun w hs => rbit_any y i _) rfl rfl ?_
        first | (refine D0_val rfl rfl rfl (Y_addN rfl rfl (by with_reducible exact nat_cast _) (by with_reducible exact nat_cast _) (by omega)) ?_; refine D0_val rfl rfl rfl (Y_assign rfl) ?_; refine D0_nil ?_; refine X_seq ?_; refine T_seq ?_; refine T_region ?_; refine S_val rfl rfl (Y_move rfl) ?_; refine S_val rfl rfl (Y_eql_t rfl rfl (by decide)) ?_; refine S_val rfl rfl (Y_move rfl) ?_; refine S_val rfl rfl (Y_move rfl) ?_; refine S_val rfl rfl (Y_eql_t rfl rfl (by omega)) ?_; refine S_val rfl rfl (Y_pick_t rfl rfl) ?_; refine S_val rfl rfl (Y_move rfl) ?_; refine S_skip rfl rfl ?_; refine S_skip rfl rfl ?_; refine S_skip rfl rfl ?_; refine S_skip rfl rfl ?_; refine S_skip rfl rfl ?_; refine S_skip rfl rfl ?_; refine S_val rfl rfl (Y_pick_t rfl rfl) ?_; refine S_val rfl rfl (Y_move rfl) ?_; refine S_skip rfl rfl ?_; refine S_skip rfl rfl ?_; refine S_skip rfl rfl ?_; refine S_skip rfl rfl ?_; refine S_skip rfl rfl ?_; refine S_skip rfl rfl ?_; refine S_val rfl rfl (Y_pick_t rfl rfl) ?_; refine S_nil ?_; refine X_seq ?_; refine T_cond_true rfl ?_; refine T_region ?_; refine S_val rfl rfl (Y_move rfl) ?_; refine S_val rfl rfl (Y_ixa (und rfl) (siz rfl) rfl rfl (by with_reducible exact nat_cast _) (by omega)) ?_; refine S_storeI 3 (siz rfl) rfl rfl rfl (by simp; omega) rfl rfl ?_; refine S_nil ?_; refine X_blk ?_; refine X_seq ?_; refine T_region ?_; refine S_val rfl rfl (Y_move rfl) ?_; refine S_val rfl rfl (Y_addN rfl rfl (by with_reducible exact nat_cast _) (nat_lit' _) (by omega)) ?_; refine S_val rfl rfl (Y_assign rfl) ?_; refine S_nil ?_) | (refine D0_val rfl rfl rfl (Y_addN rfl rfl (by with_reducible exact nat_cast _) (by with_reducible exact nat_cast _) (by omega)) ?_; refine D0_val rfl rfl rfl (Y_assign rfl) ?_; refine D0_nil ?_; refine X_seq ?_; refine T_seq ?_; refine T_region ?_; refine S_val rfl rfl (Y_move rfl) ?_; refine S_val rfl rfl (Y_eql_f rfl rfl (by decide)) ?_; refine S_val rfl rfl (Y_move rfl) ?_; refine S_skip rfl rfl ?_; refine S_skip rfl rfl ?_; refine S_val rfl rfl (Y_pick_f rfl rfl) ?_; refine S_val rfl rfl (Y_move rfl) ?_; refine S_val rfl rfl (Y_move rfl) ?_; refine S_val rfl rfl (Y_eql_t rfl rfl (by decide)) ?_; refine S_val rfl rfl (Y_move rfl) ?_; refine S_val rfl rfl (Y_move rfl) ?_; refine S_val rfl rfl (Y_gtr_t rfl rfl (by omega)) ?_; refine S_val rfl rfl (Y_pick_t rfl rfl) ?_; refine S_val rfl rfl (Y_pick_f rfl rfl) ?_; refine S_val rfl rfl (Y_move rfl) ?_; refine S_skip rfl rfl ?_; refine S_skip rfl rfl ?_; refine S_skip rfl rfl ?_; refine S_skip rfl rfl ?_; refine S_skip rfl rfl ?_; refine S_skip rfl rfl ?_; refine S_val rfl rfl (Y_pick_t rfl rfl) ?_; refine S_nil ?_; refine X_seq ?_; refine T_cond_true rfl ?_; refine T_region ?_; refine S_val rfl rfl (Y_move rfl) ?_; refine S_val rfl rfl (Y_ixa (und rfl) (siz rfl) rfl rfl (by with_reducible exact nat_cast _) (by omega)) ?_; refine S_storeI 3 (siz rfl) rfl rfl rfl (by simp; omega) rfl rfl ?_; refine S_nil ?_; refine X_blk ?_; refine X_seq ?_; refine T_region ?_; refine S_val rfl rfl (Y_move rfl) ?_; refine S_val rfl rfl (Y_addN rfl rfl (by with_reducible exact nat_cast _) (nat_lit' _) (by omega)) ?_; refine S_val rfl rfl (Y_assign rfl) ?_; refine S_nil ?_) | (refine D0_val rfl rfl rfl (Y_addN rfl rfl (by with_reducible exact nat_cast _) (by with_reducible exact nat_cast _) (by omega)) ?_; refine D0_val rfl rfl rfl (Y_assign rfl) ?_; refine D0_nil ?_; refine X_seq ?_; refine T_seq ?_; refine T_region ?_; refine S_val rfl rfl (Y_move rfl) ?_; refine S_val rfl rfl (Y_eql_f rfl rfl (by decide)) ?_; refine S_val rfl rfl (Y_move rfl) ?_; refine S_skip rfl rfl ?_; refine S_skip rfl rfl ?_; refine S_val rfl rfl (Y_pick_f rfl rfl) ?_; refine S_val rfl rfl (Y_move rfl) ?_; refine S_val rfl rfl (Y_move rfl) ?_; refine S_val rfl rfl (Y_eql_f rfl rfl (by decide)) ?_; refine S_val rfl rfl (Y_move rfl) ?_; refine S_skip rfl rfl ?_; refine S_skip rfl rfl ?_; refine S_val rfl rfl (Y_pick_f rfl rfl) ?_; refine S_val rfl rfl (Y_pick_f rfl rfl) ?_; refine S_val rfl rfl (Y_move rfl) ?_; refine S_val rfl rfl (Y_move rfl) ?_; refine S_val rfl rfl (Y_eql_t rfl rfl (by decide)) ?_; refine S_val rfl rfl (Y_move rfl) ?_; refine S_val rfl rfl (Y_move rfl) ?_; refine S_val rfl rfl (Y_eql_t rfl rfl (by omega)) ?_; refine S_val rfl rfl (Y_pick_t rfl rfl) ?_; refine S_val rfl rfl (Y_pick_f rfl rfl) ?_; refine S_nil ?_; refine X_seq ?_; refine T_cond_true rfl ?_; refine T_region ?_; refine S_val rfl rfl (Y_move rfl) ?_; refine S_val rfl rfl (Y_ixa (und rfl) (siz rfl) rfl rfl (by with_reducible exact nat_cast _) (by omega)) ?_; refine S_storeI 3 (siz rfl) rfl rfl rfl (by simp; omega) rfl rfl ?_; refine S_nil ?_; refine X_blk ?_; refine X_seq ?_; refine T_region ?_; refine S_val rfl rfl (Y_move rfl) ?_; refine S_val rfl rfl (Y_addN rfl rfl (by with_reducible exact nat_cast _) (nat_lit' _) (by omega)) ?_; refine S_val rfl rfl (Y_assign rfl) ?_; refine S_nil ?_)
        refine X_loop ?_
        refine ⟨(i + 1, z % 2 ^ (i + 1)), ⟨by dsimp only; omega, rfl⟩, by dsimp only; omega, (by repeat (first | exact Env.sub_nil _ | (apply Env.sub_cons; rfl))), [], ?_⟩
        rw [mod_pow_succ', hz, ← hs, ← dl_set (by omega) (by rw [hs]; exact Nat.mod_lt _ (Nat.pow_pos (by omega))) (by omega)]
        rfl
    · have hz := h0 i (by omega) hc
      unfold isBit at hc
      rcases hk with rfl | rfl | rfl
      all_goals
        refine T_skip ?_
        refine X_seq ?_
        refine T_seq ?_
        refine T_block ?_
        refine T_seq ?_
        refine T_draw (by kernel_rfl) (by kernel_rfl) rfl ?_
        refine D0_valM rfl rfl rfl (Y_loadAI 0 (und rfl) rfl rfl rfl (siz rfl) (dl_length _ _ _)) ?_
        refine D0_val rfl rfl rfl (Y_move rfl) ?_
        refine D0_callV rfl rfl (bod rfl) (fun w hs => rbit_any x i _) rfl rfl ?_
        refine D0_valM rfl rfl rfl (Y_loadAI 1 (und rfl) rfl rfl rfl (siz rfl) (dl_length _ _ _)) ?_
        refine D0_val rfl rfl rfl (Y_move rfl) ?_
        refine D0_callV rfl rfl (bod rfl) (fun w hs => rbit_any y i _) rfl rfl ?_
        first | (refine D0_val rfl rfl rfl (Y_addN rfl rfl (by with_reducible exact nat_cast _) (by with_reducible exact nat_cast _) (by omega)) ?_; refine D0_val rfl rfl rfl (Y_assign rfl) ?_; refine D0_nil ?_; refine X_seq ?_; refine T_seq ?_; refine T_region ?_; refine S_val rfl rfl (Y_move rfl) ?_; refine S_val rfl rfl (Y_eql_t rfl rfl (by decide)) ?_; refine S_val rfl rfl (Y_move rfl) ?_; refine S_val rfl rfl (Y_move rfl) ?_; refine S_val rfl rfl (Y_eql_f rfl rfl (by omega)) ?_; refine S_val rfl rfl (Y_pick_t rfl rfl) ?_; refine S_val rfl rfl (Y_move rfl) ?_; refine S_val rfl rfl (Y_move rfl) ?_; refine S_val rfl rfl (Y_eql_f rfl rfl (by decide)) ?_; refine S_val rfl rfl (Y_move rfl) ?_; refine S_skip rfl rfl ?_; refine S_skip rfl rfl ?_; refine S_val rfl rfl (Y_pick_f rfl rfl) ?_; refine S_val rfl rfl (Y_pick_f rfl rfl) ?_; refine S_val rfl rfl (Y_move rfl) ?_; refine S_val rfl rfl (Y_move rfl) ?_; refine S_val rfl rfl (Y_eql_f rfl rfl (by decide)) ?_; refine S_val rfl rfl (Y_move rfl) ?_; refine S_skip rfl rfl ?_; refine S_skip rfl rfl ?_; refine S_val rfl rfl (Y_pick_f rfl rfl) ?_; refine S_val rfl rfl (Y_pick_f rfl rfl) ?_; refine S_nil ?_; refine X_seq ?_; refine T_cond_false rfl ?_; refine T_skip ?_; refine X_blk ?_; refine X_seq ?_; refine T_region ?_; refine S_val rfl rfl (Y_move rfl) ?_; refine S_val rfl rfl (Y_addN rfl rfl (by with_reducible exact nat_cast _) (nat_lit' _) (by omega)) ?_; refine S_val rfl rfl (Y_assign rfl) ?_; refine S_nil ?_) | (refine D0_val rfl rfl rfl (Y_addN rfl rfl (by with_reducible exact nat_cast _) (by with_reducible exact nat_cast _) (by omega)) ?_; refine D0_val rfl rfl rfl (Y_assign rfl) ?_; refine D0_nil ?_; refine X_seq ?_; refine T_seq ?_; refine T_region ?_; refine S_val rfl rfl (Y_move rfl) ?_; refine S_val rfl rfl (Y_eql_f rfl rfl (by decide)) ?_; refine S_val rfl rfl (Y_move rfl) ?_; refine S_skip rfl rfl ?_; refine S_skip rfl rfl ?_; refine S_val rfl rfl (Y_pick_f rfl rfl) ?_; refine S_val rfl rfl (Y_move rfl) ?_; refine S_val rfl rfl (Y_move rfl) ?_; refine S_val rfl rfl (Y_eql_t rfl rfl (by decide)) ?_; refine S_val rfl rfl (Y_move rfl) ?_; refine S_val rfl rfl (Y_move rfl) ?_; refine S_val rfl rfl (Y_gtr_f rfl rfl (by omega)) ?_; refine S_val rfl rfl (Y_pick_t rfl rfl) ?_; refine S_val rfl rfl (Y_pick_f rfl rfl) ?_; refine S_val rfl rfl (Y_move rfl) ?_; refine S_val rfl rfl (Y_move rfl) ?_; refine S_val rfl rfl (Y_eql_f rfl rfl (by decide)) ?_; refine S_val rfl rfl (Y_move rfl) ?_; refine S_skip rfl rfl ?_; refine S_skip rfl rfl ?_; refine S_val rfl rfl (Y_pick_f rfl rfl) ?_; refine S_val rfl rfl (Y_pick_f rfl rfl) ?_; refine S_nil ?_; refine X_seq ?_; refine T_cond_false rfl ?_; refine T_skip ?_; refine X_blk ?_; refine X_seq ?_; refine T_region ?_; refine S_val rfl rfl (Y_move rfl) ?_; refine S_val rfl rfl (Y_addN rfl rfl (by with_reducible exact nat_cast _) (nat_lit' _) (by omega)) ?_; refine S_val rfl rfl (Y_assign rfl) ?_; refine S_nil ?_) | (refine D0_val rfl rfl rfl (Y_addN rfl rfl (by with_reducible exact nat_cast _) (by with_reducible exact nat_cast _) (by omega)) ?_; refine D0_val rfl rfl rfl (Y_assign rfl) ?_; refine D0_nil ?_; refine X_seq ?_; refine T_seq ?_; refine T_region ?_; refine S_val rfl rfl (Y_move rfl) ?_; refine S_val rfl rfl (Y_eql_f rfl rfl (by decide)) ?_; refine S_val rfl rfl (Y_move rfl) ?_; refine S_skip rfl rfl ?_; refine S_skip rfl rfl ?_; refine S_val rfl rfl (Y_pick_f rfl rfl) ?_; refine S_val rfl rfl (Y_move rfl) ?_; refine S_val rfl rfl (Y_move rfl) ?_; refine S_val rfl rfl (Y_eql_f rfl rfl (by decide)) ?_; refine S_val rfl rfl (Y_move rfl) ?_; refine S_skip rfl rfl ?_; refine S_skip rfl rfl ?_; refine S_val rfl rfl (Y_pick_f rfl rfl) ?_; refine S_val rfl rfl (Y_pick_f rfl rfl) ?_; refine S_val rfl rfl (Y_move rfl) ?_; refine S_val rfl rfl (Y_move rfl) ?_; refine S_val rfl rfl (Y_eql_t rfl rfl (by decide)) ?_; refine S_val rfl rfl (Y_move rfl) ?_; refine S_val rfl rfl (Y_move rfl) ?_; refine S_val rfl rfl (Y_eql_f rfl rfl (by omega)) ?_; refine S_val rfl rfl (Y_pick_t rfl rfl) ?_; refine S_val rfl rfl (Y_pick_f rfl rfl) ?_; refine S_nil ?_; refine X_seq ?_; refine T_cond_false rfl ?_; refine T_skip ?_; refine X_blk ?_; refine X_seq ?_; refine T_region ?_; refine S_val rfl rfl (Y_move rfl) ?_; refine S_val rfl rfl (Y_addN rfl rfl (by with_reducible exact nat_cast _) (nat_lit' _) (by omega)) ?_; refine S_val rfl rfl (Y_assign rfl) ?_; refine S_nil ?_)
        refine X_loop ?_
        refine ⟨(i + 1, z % 2 ^ (i + 1)), ⟨by dsimp only; omega, rfl⟩, by dsimp only; omega, (by repeat (first | exact Env.sub_nil _ | (apply Env.sub_cons; rfl))), [], ?_⟩
        rw [mod_pow_succ', hz, ← hs, Nat.zero_mul, Nat.add_zero]
        rfl
  · obtain rfl : i = 256 := by omega
    rw [hs, dl_mod]
    refine T_exit ?_
    refine X_seq_exit ?_
    refine X_loop_exit ?_
    refine X_blk_hit rfl ?_
    refine X_seq ?_
    refine T_seq ?_
    refine T_region ?_
    refine S_val rfl rfl (Y_loadAI 3 (und rfl) rfl rfl rfl (siz rfl) (dl_length _ _ _)) ?_
    refine S_callV rfl rfl (bod rfl) (fun w hs => rbits_any z _) rfl rfl ?_
    refine S_storeAI 2 (siz rfl) rfl rfl rfl rfl (dl_length _ _ _) rfl ?_
    refine S_nil ?_
    refine X_seq ?_
    refine T_ret ?_
    ((first | refine X_fin_ret ?_ | refine X_fin ?_); exact ⟨[_], [], .cons (.agg 2 rfl (und rfl) rfl rfl (siz rfl)) .nil, Emb.nil _, rfl, rfl⟩)
theorem bit_and (x y i : Nat) (hi : i < 256) : (isBit 0 (bitN x i + bitN y i) → (x &&& y) / 2 ^ i % 2 = 1) ∧ (¬ isBit 0 (bitN x i + bitN y i) → (x &&& y) / 2 ^ i % 2 = 0) := by
  rw [bitN_nat x i hi, bitN_nat y i hi, ← Nat.toNat_testBit, ← Nat.toNat_testBit, ← Nat.toNat_testBit, Nat.testBit_and]
  unfold isBit
  cases x.testBit i <;> cases y.testBit i <;> simp
theorem bit_or (x y i : Nat) (hi : i < 256) : (isBit 1 (bitN x i + bitN y i) → (x ||| y) / 2 ^ i % 2 = 1) ∧ (¬ isBit 1 (bitN x i + bitN y i) → (x ||| y) / 2 ^ i % 2 = 0) := by
  rw [bitN_nat x i hi, bitN_nat y i hi, ← Nat.toNat_testBit, ← Nat.toNat_testBit, ← Nat.toNat_testBit, Nat.testBit_or]
  unfold isBit
  cases x.testBit i <;> cases y.testBit i <;> simp
theorem bit_xor (x y i : Nat) (hi : i < 256) : (isBit 2 (bitN x i + bitN y i) → (x ^^^ y) / 2 ^ i % 2 = 1) ∧ (¬ isBit 2 (bitN x i + bitN y i) → (x ^^^ y) / 2 ^ i % 2 = 0) := by
  rw [bitN_nat x i hi, bitN_nat y i hi, ← Nat.toNat_testBit, ← Nat.toNat_testBit, ← Nat.toNat_testBit, Nat.testBit_xor]
  unfold isBit
  cases x.testBit i <;> cases y.testBit i <;> simp
theorem bit_not (x i : Nat) (hx : x < 2 ^ 256) (hi : i < 256) : (isBit 2 (bitN x i + bitN (2 ^ 256 - 1) i) → (2 ^ 256 - 1 - x) / 2 ^ i % 2 = 1) ∧ (¬ isBit 2 (bitN x i + bitN (2 ^ 256 - 1) i) → (2 ^ 256 - 1 - x) / 2 ^ i % 2 = 0) := by
  rw [bitN_nat x i hi, bitN_nat (2 ^ 256 - 1) i hi, ← Nat.toNat_testBit x, ← Nat.toNat_testBit (2 ^ 256 - 1), ← Nat.toNat_testBit (2 ^ 256 - 1 - x), Nat.testBit_two_pow_sub_one,
    show 2 ^ 256 - 1 - x = 2 ^ 256 - (x + 1) by omega, Nat.testBit_two_pow_sub_succ hx, decide_eq_true hi]
  unfold isBit
  cases x.testBit i <;> simp
end Go.Proofs.YtchoncjikdfbgaaGreat
