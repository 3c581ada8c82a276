import Derived.Test.YtchoncjikdfbgaaDoorRef4
import Derived.Test.YtchoncjikdfbgaaDoorRef3
/- How numbers stand, their lengths, their bytes. -/
namespace Go.Proofs.YtchoncjikdfbgaaDoor
open Go.RowKit
set_option maxRecDepth 10000
set_option maxHeartbeats 4000000

theorem cmp_digit {x y i : Nat} (h : x / 256 ^ (i + 1) = y / 256 ^ (i + 1)) (hlt : x / 256 ^ i % 256 < y / 256 ^ i % 256) : x < y := by
  rw [Nat.pow_succ, ← Nat.div_div_eq_div_mul, ← Nat.div_div_eq_div_mul] at h
  exact Nat.lt_of_div_lt_div (c := 256 ^ i) (by omega)
theorem bitLen_bit (x i : Nat) (h : x / 2 ^ i % 2 = 1) : bitLen (x % 2 ^ (i + 1)) = i + 1 := by
  have hP : 0 < 2 ^ i := Nat.pow_pos (by omega)
  have e : x % 2 ^ (i + 1) / 2 ^ i = 1 := by
    rw [mod_pow_succ', h, Nat.one_mul, Nat.add_div_right _ hP, Nat.div_eq_of_lt (Nat.mod_lt _ hP)]
  rw [bitLen_shift _ i (by omega), e]
  rfl
theorem bitLen_mod (x i : Nat) : bitLen (x % 2 ^ i) ≤ i := by
  unfold bitLen
  split
  · omega
  · rename_i h0
    have := (Nat.log2_lt h0).2 (Nat.mod_lt x (Nat.pow_pos (by omega) : 0 < 2 ^ i))
    omega
theorem rlen_any (x : Nat) (hx : x < 2 ^ 256) (w : World) : Fn Tryd.prog 52 #[D x] w fun v N => v = .int .i64 ((bitLen x : Nat) : Int) ∧ N = [] := by
  refine Fn_of (args := [D x]) Tryd.func52 rfl Tryd.ntmps52 Tryd.results52 (by simp) ?_
  refine T_seq ?_
  refine T_region ?_
  refine S_boxA rfl rfl rfl fun _ => ?_
  refine S_val rfl rfl (Y_assign rfl) ?_
  refine S_nil ?_
  refine X_seq ?_
  refine T_seq ?_
  refine T_region ?_
  refine S_val rfl rfl (Y_assign rfl) ?_
  refine S_nil ?_
  refine X_seq ?_
  refine T_seq ?_
  refine T_seq ?_
  refine T_region ?_
  refine S_val rfl rfl (Y_assign rfl) ?_
  refine S_nil ?_
  refine X_seq ?_
  refine T_block ?_
  rename_i b0
  refine T_loop (α := Nat × Nat) (fun a => a.1 ≤ 256 ∧ a.2 = bitLen (x % 2 ^ a.1))
    (fun a => [(1, .pointer (some ⟨b0, 0, none⟩)), (3, .int .i64 a.2), (4, .int .i64 a.1)])
    (fun _ => [blk b0 (.cells (ints .i64 (dl 256 32 (x))) 89 (0, 0))])
    (fun a => 256 - a.1) (0, 0) ⟨by omega, by rw [Nat.pow_zero, Nat.mod_one]; rfl⟩ (by repeat (first | exact Env.sub_nil _ | (apply Env.sub_cons; rfl))) [] rfl ?_
  rintro ⟨i, n⟩ ⟨hi, hn⟩
  dsimp only at hi hn ⊢
  refine T_seq ?_
  refine T_seq ?_
  refine T_region ?_
  refine S_val rfl rfl (Y_move rfl) ?_
  refine S_val rfl rfl (Y_lss rfl rfl) ?_
  refine S_nil ?_
  refine X_seq ?_
  refine T_if rfl (fun h => ?_) (fun h => ?_)
  · have hb := bitN_nat x i (by omega)
    have hb2 := bitN_lt x i
    by_cases hc : bitN x i = 1
    · have hc' : ((bitN x i : Nat) : Int) = 1 := by omega
      refine T_skip ?_
      refine X_seq ?_
      refine T_seq ?_
      refine T_block ?_
      refine T_seq ?_
      refine T_region ?_
      refine S_val rfl rfl (Y_loadAI 0 (und rfl) rfl rfl rfl (siz rfl) (dl_length _ _ _)) ?_
      refine S_val rfl rfl (Y_move rfl) ?_
      refine S_callV rfl rfl (bod rfl) (fun w hs => rbit_any x i _) rfl rfl ?_
      refine S_val rfl rfl (Y_eql_t rfl rfl (by assumption)) ?_
      refine S_nil ?_
      refine X_seq ?_
      refine T_cond_true rfl ?_
      refine T_region ?_
      refine S_val rfl rfl (Y_move rfl) ?_
      refine S_val rfl rfl (Y_addN rfl rfl (nat_cast _) (nat_lit' _) (by omega)) ?_
      refine S_val rfl rfl (Y_assign rfl) ?_
      refine S_nil ?_
      refine X_blk ?_
      refine X_seq ?_
      refine T_region ?_
      refine S_val rfl rfl (Y_move rfl) ?_
      refine S_val rfl rfl (Y_addN rfl rfl (nat_cast _) (nat_lit' _) (by omega)) ?_
      refine S_val rfl rfl (Y_assign rfl) ?_
      refine S_nil ?_
      refine X_loop ?_
      exact ⟨(i + 1, i + 1), ⟨by dsimp only; omega, (bitLen_bit x i (by omega)).symm⟩, by dsimp only; omega, (by repeat (first | exact Env.sub_nil _ | (apply Env.sub_cons; rfl))), [], rfl⟩
    · have hc' : ¬ ((bitN x i : Nat) : Int) = 1 := by omega
      refine T_skip ?_
      refine X_seq ?_
      refine T_seq ?_
      refine T_block ?_
      refine T_seq ?_
      refine T_region ?_
      refine S_val rfl rfl (Y_loadAI 0 (und rfl) rfl rfl rfl (siz rfl) (dl_length _ _ _)) ?_
      refine S_val rfl rfl (Y_move rfl) ?_
      refine S_callV rfl rfl (bod rfl) (fun w hs => rbit_any x i _) rfl rfl ?_
      refine S_val rfl rfl (Y_eql_f rfl rfl (by assumption)) ?_
      refine S_nil ?_
      refine X_seq ?_
      refine T_cond_false rfl ?_
      refine T_skip ?_
      refine X_blk ?_
      refine X_seq ?_
      refine T_region ?_
      refine S_val rfl rfl (Y_move rfl) ?_
      refine S_val rfl rfl (Y_addN rfl rfl (nat_cast _) (nat_lit' _) (by omega)) ?_
      refine S_val rfl rfl (Y_assign rfl) ?_
      refine S_nil ?_
      refine X_loop ?_
      exact ⟨(i + 1, n), ⟨by dsimp only; omega, by dsimp only; rw [mod_pow_succ', show x / 2 ^ i % 2 = 0 by omega, Nat.zero_mul, Nat.add_zero]; exact hn⟩, by dsimp only; omega, (by repeat (first | exact Env.sub_nil _ | (apply Env.sub_cons; rfl))), [], rfl⟩
  · obtain rfl : i = 256 := by omega
    refine T_exit ?_
    refine X_seq_exit ?_
    refine X_loop_exit ?_
    refine X_blk_hit rfl ?_
    refine X_seq ?_
    refine T_seq ?_
    refine T_region ?_
    refine S_val rfl rfl (Y_move rfl) ?_
    refine S_val rfl rfl (Y_assign rfl) ?_
    refine S_nil ?_
    refine X_seq ?_
    refine T_ret ?_
    ((first | refine X_fin_ret ?_ | refine X_fin ?_); exact ⟨[_], [], .cons (.tmp rfl) .nil, Emb.nil _, by rw [hn, Nat.mod_eq_of_lt hx]; rfl, rfl⟩)
end Go.Proofs.YtchoncjikdfbgaaDoor
