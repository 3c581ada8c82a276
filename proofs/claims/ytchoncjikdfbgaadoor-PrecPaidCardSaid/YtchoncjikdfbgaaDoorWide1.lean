import Derived.Test.YtchoncjikdfbgaaDoorWord3
/- Whole products. -/
namespace Go.Proofs.YtchoncjikdfbgaaDoor
open Go.RowKit
set_option maxRecDepth 10000
set_option maxHeartbeats 4000000

/-- A digit that is turned leaves a number below the same power. -/
theorem put_lt {b m x i d : Nat} (hx : x < b ^ m) (hi : i < m) (hd : d < b) : x - x / b ^ i % b * b ^ i + d * b ^ i < b ^ m := by
  have hb : 0 < b := by omega
  have hs := split_at b i x
  have hr : x % b ^ i < b ^ i := Nat.mod_lt _ (Nat.pow_pos hb)
  have hh : x / b ^ (i + 1) < b ^ (m - (i + 1)) := Nat.div_lt_of_lt_mul (by rw [← Nat.pow_add, show i + 1 + (m - (i + 1)) = m by omega]; exact hx)
  have hm : (x / b ^ (i + 1) + 1) * b ^ (i + 1) ≤ b ^ m := by
    have := Nat.mul_le_mul_right (b ^ (i + 1)) hh
    rwa [← Nat.pow_add, show m - (i + 1) + (i + 1) = m by omega] at this
  have h2 : d * b ^ i + b ^ i ≤ b ^ (i + 1) := by
    have := Nat.mul_le_mul_right (b ^ i) hd
    rw [Nat.succ_mul] at this
    rw [Nat.pow_succ, Nat.mul_comm (b ^ i)]
    exact this
  rw [Nat.add_mul, Nat.one_mul] at hm
  generalize x % b ^ i = r at *
  generalize x / b ^ i % b = c at *
  generalize x / b ^ (i + 1) = h at *
  omega
theorem product_any (x y : Nat) (hx : x < 2 ^ 256) (hy : y < 2 ^ 256) (w : World) : Fn Tryd.prog 31 #[W x, W y] w fun v N => v = .tuple #[W (x * y), W (x * y / 2 ^ 256)] ∧ N = [] := by
  refine Fn_of (args := [W x, W y]) Tryd.func31 rfl Tryd.ntmps31 Tryd.results31 (by simp) ?_
  refine T_seq ?_
  refine T_region ?_
  refine S_boxA rfl rfl rfl fun _ => ?_
  refine S_boxA rfl rfl rfl fun _ => ?_
  refine S_allocA (zer rfl) rfl rfl fun _ => ?_
  refine S_allocA (zer rfl) rfl rfl fun _ => ?_
  refine S_nil ?_
  refine X_seq ?_
  refine T_seq ?_
  refine T_region ?_
  refine S_allocA (zer rfl) rfl rfl fun _ => ?_
  refine S_nil ?_
  refine X_seq ?_
  refine T_seq ?_
  refine T_seq ?_
  refine T_region ?_
  refine S_val rfl rfl (Y_move rfl) ?_
  refine S_nil ?_
  refine X_seq ?_
  refine T_block ?_
  rename_i b0 b1 b2 b3 b4
  have hx4 : x < 18446744073709551616 ^ 4 := hx
  have hy4 : y < 18446744073709551616 ^ 4 := hy
  refine T_loop (α := Nat × Nat) (fun a => a.1 ≤ 4 ∧ a.2 = x % 18446744073709551616 ^ a.1 * y)
    (fun a => [(2, .pointer (some ⟨b0, 0, none⟩)), (3, .pointer (some ⟨b1, 0, none⟩)), (4, .pointer (some ⟨b2, 0, none⟩)), (5, .pointer (some ⟨b3, 0, none⟩)), (6, .pointer (some ⟨b4, 0, none⟩)), (13, .int .i64 a.1)])
    (fun a => [blk b0 (.cells (ints .u64 (dl 18446744073709551616 4 (x))) 47 (0, 0)), blk b1 (.cells (ints .u64 (dl 18446744073709551616 4 (y))) 47 (0, 0)), blk b2 (.cells (ints .u64 (List.replicate 4 0)) 47 (0, 0)), blk b3 (.cells (ints .u64 (List.replicate 4 0)) 47 (0, 0)), blk b4 (.cells (ints .u64 (dl 18446744073709551616 8 a.2)) 81 (0, 0))])
    (fun a => 4 - a.1) (0, 0) (by simp [Nat.mod_one]) (by repeat (first | exact Env.sub_nil _ | (apply Env.sub_cons; rfl))) [] rfl ?_
  rintro ⟨i, o⟩ ⟨hi, ho⟩
  dsimp only at hi ho ⊢
  by_cases h : i < 4
  · have hob : o < 18446744073709551616 ^ (i + 4) := by
      rw [ho, Nat.pow_add]
      exact Nat.mul_lt_mul'' (Nat.mod_lt _ (Nat.pow_pos (by omega))) hy4
    refine T_seq ?_
    refine T_region ?_
    refine S_val rfl rfl (Y_lss_t rfl rfl (by omega)) ?_
    refine S_nil ?_
    refine X_seq ?_
    refine T_seq ?_
    refine T_cond_true rfl ?_
    refine T_skip ?_
    refine X_seq ?_
    refine T_seq ?_
    refine T_block ?_
    refine T_seq ?_
    refine T_region ?_
    refine S_val rfl rfl (Y_move rfl) ?_
    refine S_val rfl rfl (Y_assign rfl) ?_
    refine S_nil ?_
    refine X_seq ?_
    refine T_seq ?_
    refine T_region ?_
    refine S_val rfl rfl (Y_assign rfl) ?_
    refine S_nil ?_
    refine X_seq ?_
    refine T_seq ?_
    refine T_seq ?_
    refine T_region ?_
    refine S_val rfl rfl (Y_move rfl) ?_
    refine S_nil ?_
    refine X_seq ?_
    refine T_block ?_
    refine T_loop (α := Nat × Nat × Nat) (fun a => a.1 ≤ 4 ∧ a.2.1 < 18446744073709551616 ∧ a.2.2 + a.2.1 * 18446744073709551616 ^ (i + a.1) = o + x / 18446744073709551616 ^ i % 18446744073709551616 * (y % 18446744073709551616 ^ a.1) * 18446744073709551616 ^ i ∧ a.2.2 < 18446744073709551616 ^ (i + 4))
      (fun a => [(2, .pointer (some ⟨b0, 0, none⟩)), (3, .pointer (some ⟨b1, 0, none⟩)), (4, .pointer (some ⟨b2, 0, none⟩)), (5, .pointer (some ⟨b3, 0, none⟩)), (6, .pointer (some ⟨b4, 0, none⟩)), (7, .int .i64 i), (8, .int .u64 a.2.1), (13, .int .i64 i), (16, .int .i64 a.1)])
      (fun a => [blk b0 (.cells (ints .u64 (dl 18446744073709551616 4 (x))) 47 (0, 0)), blk b1 (.cells (ints .u64 (dl 18446744073709551616 4 (y))) 47 (0, 0)), blk b2 (.cells (ints .u64 (List.replicate 4 0)) 47 (0, 0)), blk b3 (.cells (ints .u64 (List.replicate 4 0)) 47 (0, 0)), blk b4 (.cells (ints .u64 (dl 18446744073709551616 8 a.2.2)) 81 (0, 0))])
      (fun a => 4 - a.1) (0, 0, o) (by simpa [Nat.mod_one] using hob) (by repeat (first | exact Env.sub_nil _ | (apply Env.sub_cons; rfl))) [] rfl ?_
    rintro ⟨j, c, p⟩ ⟨hj, hc, hp, hpb⟩
    dsimp only at hj hc hp hpb ⊢
    have hxi := digit_lt x i
    have hyj := digit_lt y j
    have hpj := digit_lt p (i + j)
    have hxy : x / 18446744073709551616 ^ i % 18446744073709551616 * (y / 18446744073709551616 ^ j % 18446744073709551616) ≤ 18446744073709551615 * 18446744073709551615 := Nat.mul_le_mul (by omega) (by omega)
    by_cases h2 : j < 4
    · refine T_seq ?_
      refine T_region ?_
      refine S_val rfl rfl (Y_lss_t rfl rfl (by omega)) ?_
      refine S_nil ?_
      refine X_seq ?_
      refine T_seq ?_
      refine T_cond_true rfl ?_
      refine T_skip ?_
      refine X_seq ?_
      refine T_seq ?_
      refine T_block ?_
      refine T_seq ?_
      refine T_region ?_
      refine S_val rfl rfl (Y_move rfl) ?_
      refine S_val rfl rfl (Y_assign rfl) ?_
      refine S_nil ?_
      refine X_seq ?_
      refine T_seq ?_
      refine T_draw (by kernel_rfl) (by kernel_rfl) rfl ?_
      refine D0_val rfl rfl rfl (Y_move rfl) ?_
      refine D0_val rfl rfl rfl (Y_ixa (und rfl) (siz rfl) rfl rfl (nat_cast _) (by assumption)) ?_
      refine D0_valM rfl rfl rfl (Y_loadI 0 (und rfl) rfl rfl rfl (dl_get (by assumption))) ?_
      refine D0_val rfl rfl rfl (Y_move rfl) ?_
      refine D0_val rfl rfl rfl (Y_ixa (und rfl) (siz rfl) rfl rfl (nat_cast _) (by assumption)) ?_
      refine D0_valM rfl rfl rfl (Y_loadI 1 (und rfl) rfl rfl rfl (dl_get (by assumption))) ?_
      refine D0_callV rfl rfl (bod rfl) (fun w hs => mul64_any _ _ hxi hyj _) rfl rfl ?_
      refine D0_val rfl rfl rfl (Y_move rfl) ?_
      refine D0_val rfl rfl rfl (Y_extract rfl rfl) ?_
      refine D0_val rfl rfl rfl (Y_extract rfl rfl) ?_
      refine D0_val rfl rfl rfl (Y_assign rfl) ?_
      refine D0_val rfl rfl rfl (Y_assign rfl) ?_
      refine D0_nil ?_
      refine X_seq ?_
      refine T_seq ?_
      refine T_region ?_
      refine S_val rfl rfl (Y_move rfl) ?_
      refine S_val rfl rfl (Y_move rfl) ?_
      refine S_val rfl rfl (Y_move rfl) ?_
      refine S_val rfl rfl (Y_addN rfl rfl (nat_cast _) (nat_cast _) (by omega)) ?_
      refine S_val rfl rfl (Y_ixa (und rfl) (siz rfl) rfl rfl (nat_cast _) (by omega)) ?_
      refine S_val rfl rfl (Y_loadI 4 (und rfl) rfl rfl rfl (dl_get (by omega))) ?_
      refine S_val rfl rfl (Y_ext rfl rfl fun w => add64 _ _ 0 (by omega) _) ?_
      refine S_val rfl rfl (Y_move rfl) ?_
      refine S_val rfl rfl (Y_extract rfl rfl) ?_
      refine S_val rfl rfl (Y_extract rfl rfl) ?_
      refine S_val rfl rfl (Y_assign rfl) ?_
      refine S_val rfl rfl (Y_assign rfl) ?_
      refine S_nil ?_
      refine X_seq ?_
      refine T_seq ?_
      refine T_region ?_
      refine S_val rfl rfl (Y_move rfl) ?_
      refine S_val rfl rfl (Y_move rfl) ?_
      refine S_val rfl rfl (Y_addU rfl rfl (nat_cast _) (nat_cast _) rfl (by simp only [IntKind.bits]; omega)) ?_
      refine S_val rfl rfl (Y_assign rfl) ?_
      refine S_nil ?_
      refine X_seq ?_
      refine T_seq ?_
      refine T_region ?_
      refine S_val rfl rfl (Y_move rfl) ?_
      refine S_val rfl rfl (Y_move rfl) ?_
      refine S_val rfl rfl (Y_ext rfl rfl fun w => add64 _ _ 0 (by omega) _) ?_
      refine S_val rfl rfl (Y_move rfl) ?_
      refine S_val rfl rfl (Y_extract rfl rfl) ?_
      refine S_val rfl rfl (Y_extract rfl rfl) ?_
      refine S_val rfl rfl (Y_assign rfl) ?_
      refine S_val rfl rfl (Y_assign rfl) ?_
      refine S_nil ?_
      refine X_seq ?_
      refine T_seq ?_
      refine T_region ?_
      refine S_val rfl rfl (Y_move rfl) ?_
      refine S_val rfl rfl (Y_move rfl) ?_
      refine S_val rfl rfl (Y_addN rfl rfl (nat_cast _) (nat_cast _) (by omega)) ?_
      refine S_val rfl rfl (Y_move rfl) ?_
      refine S_val rfl rfl (Y_ixa (und rfl) (siz rfl) rfl rfl (nat_cast _) (by omega)) ?_
      refine S_storeI 4 (siz rfl) rfl rfl rfl (by simp; omega) rfl rfl ?_
      refine S_nil ?_
      refine X_seq ?_
      refine T_region ?_
      refine S_val rfl rfl (Y_move rfl) ?_
      refine S_val rfl rfl (Y_move rfl) ?_
      refine S_val rfl rfl (Y_addU rfl rfl (nat_cast _) (nat_cast _) rfl (by simp only [IntKind.bits]; omega)) ?_
      refine S_val rfl rfl (Y_assign rfl) ?_
      refine S_nil ?_
      refine X_blk ?_
      refine X_seq ?_
      refine T_region ?_
      refine S_val rfl rfl (Y_addN rfl rfl (nat_cast _) (nat_lit' _) (by omega)) ?_
      refine S_val rfl rfl (Y_move rfl) ?_
      refine S_nil ?_
      refine X_loop ?_
      refine ⟨(j + 1, _, _), ⟨?_, ?_, ?_, ?_⟩, ?_, (by repeat (first | exact Env.sub_nil _ | (apply Env.sub_cons; rfl))), [], by rw [dl_put (by omega) (Nat.mod_lt _ (by omega))]; rfl⟩
      · dsimp only; omega
      · dsimp only; omega
      · dsimp only
        have hs := split_at 18446744073709551616 (i + j) p
        have hy2 := mod_pow_succ' y 18446744073709551616 j
        rw [hy2]
        clear hpb hob ho
        generalize x / 18446744073709551616 ^ i % 18446744073709551616 = xi at *
        generalize y / 18446744073709551616 ^ j % 18446744073709551616 = yj at *
        generalize p / 18446744073709551616 ^ (i + j) % 18446744073709551616 = pj at *
        have hP : (18446744073709551616 : Nat) ^ (i + (j + 1)) = 18446744073709551616 * 18446744073709551616 ^ (i + j) := by rw [← Nat.add_assoc, Nat.pow_succ, Nat.mul_comm]
        have hQ : xi * (y % 18446744073709551616 ^ j + yj * 18446744073709551616 ^ j) * 18446744073709551616 ^ i = xi * (y % 18446744073709551616 ^ j) * 18446744073709551616 ^ i + xi * yj * 18446744073709551616 ^ (i + j) := by
          rw [Nat.mul_add, Nat.add_mul, ← Nat.mul_assoc xi yj, Nat.mul_assoc (xi * yj), ← Nat.pow_add, Nat.add_comm j i]
        rw [hP, hQ, ← Nat.mul_assoc]
        generalize xi * yj = m at *
        generalize hl : ((m % 18446744073709551616 + pj + 0) % 18446744073709551616 + c + 0) % 18446744073709551616 = l2
        generalize hcc : m / 18446744073709551616 + (m % 18446744073709551616 + pj + 0) / 18446744073709551616 + ((m % 18446744073709551616 + pj + 0) % 18446744073709551616 + c + 0) / 18446744073709551616 = c2
        have key : l2 + c2 * 18446744073709551616 = m + pj + c := by omega
        have k2 := congrArg (· * 18446744073709551616 ^ (i + j)) key
        simp only [Nat.add_mul] at k2
        omega
      · dsimp only
        exact put_lt hpb (by omega) (Nat.mod_lt _ (by omega))
      · dsimp only; omega
    · obtain rfl : j = 4 := by omega
      refine T_seq ?_
      refine T_region ?_
      refine S_val rfl rfl (Y_lss_f rfl rfl (by decide)) ?_
      refine S_nil ?_
      refine X_seq ?_
      refine T_seq ?_
      refine T_cond_false rfl ?_
      refine T_exit ?_
      refine X_seq_exit ?_
      refine X_loop_exit ?_
      refine X_blk_hit rfl ?_
      refine X_seq ?_
      refine T_region ?_
      refine S_val rfl rfl (Y_move rfl) ?_
      refine S_val rfl rfl (Y_addN rfl rfl (nat_cast _) (nat_lit' _) (by omega)) ?_
      refine S_val rfl rfl (Y_move rfl) ?_
      refine S_val rfl rfl (Y_ixa (und rfl) (siz rfl) rfl rfl (nat_cast _) (by omega)) ?_
      refine S_storeI 4 (siz rfl) rfl rfl rfl (by simp; omega) rfl rfl ?_
      refine S_nil ?_
      refine X_blk ?_
      refine X_seq ?_
      refine T_region ?_
      refine S_val rfl rfl (Y_addN rfl rfl (nat_cast _) (nat_lit' _) (by omega)) ?_
      refine S_val rfl rfl (Y_move rfl) ?_
      refine S_nil ?_
      refine X_loop ?_
      refine ⟨(i + 1, p + c * 18446744073709551616 ^ (i + 4)), ⟨by dsimp only; omega, ?_⟩, by dsimp only; omega, (by repeat (first | exact Env.sub_nil _ | (apply Env.sub_cons; rfl))), [], ?_⟩
      · dsimp only
        rw [hp, Nat.mod_eq_of_lt hy4, ho, mod_pow_succ', Nat.add_mul, Nat.mul_right_comm]
      · dsimp only
        rw [dl_put (by omega) hc, dig_high' (by omega) hpb (Nat.le_refl _), Nat.zero_mul, Nat.sub_zero]
        rfl
  · obtain rfl : i = 4 := by omega
    rw [Nat.mod_eq_of_lt hx4] at ho
    subst ho
    refine T_seq ?_
    refine T_region ?_
    refine S_val rfl rfl (Y_lss_f rfl rfl (by decide)) ?_
    refine S_nil ?_
    refine X_seq ?_
    refine T_seq ?_
    refine T_cond_false rfl ?_
    refine T_exit ?_
    refine X_seq_exit ?_
    refine X_loop_exit ?_
    refine X_blk_hit rfl ?_
    refine X_seq ?_
    refine T_seq ?_
    refine T_drawL (.succ (.succ (.succ (.succ (.succ (.succ .zero)))))) [.fx (blk b2 (.cells (ints .u64 (List.replicate 4 0)) 47 (0, 0))), .fx (blk b3 (.cells (ints .u64 (List.replicate 4 0)) 47 (0, 0)))] [blk b0 (.cells (ints .u64 (dl 18446744073709551616 4 (x))) 47 (0, 0)), blk b1 (.cells (ints .u64 (dl 18446744073709551616 4 (y))) 47 (0, 0)), blk b4 (.cells (ints .u64 (dl 18446744073709551616 8 (x * y))) 81 (0, 0))] rfl (by kernel_rfl) (Emb.idx [0, 1, 4, 2, 3] rfl rfl) rfl (by kernel_rfl) ?_
    refine D0_val rfl rfl rfl (Y_sliceArrHi (und rfl) (siz rfl) rfl rfl (nat_lit' _) (Nat.le_of_ble_eq_true rfl)) ?_
    refine D0_valM rfl rfl rfl (Y_arrayAt (und rfl) rfl (Nat.le_of_ble_eq_true rfl)) ?_
    refine D0_valM rfl rfl rfl (Y_loadPI 2 (und rfl) rfl rfl rfl (siz rfl) (Nat.le_of_ble_eq_true rfl)) ?_
    refine D0_val rfl rfl rfl (Y_sliceArrLo (und rfl) (siz rfl) rfl rfl (nat_lit' _) (Nat.le_of_ble_eq_true rfl)) ?_
    refine D0_valM rfl rfl rfl (Y_arrayAt (und rfl) rfl (Nat.le_of_ble_eq_true rfl)) ?_
    refine D0_valM rfl rfl rfl (Y_loadPI 2 (und rfl) rfl rfl rfl (siz rfl) (Nat.le_of_ble_eq_true rfl)) ?_
    refine D0_nilL ?_
    refine DL_storeAI rfl (fun _ => rfl) rfl (siz rfl) (fun _ => rfl) (fun _ => rfl) rfl rfl ?_
    refine DL_storeAI rfl (fun _ => rfl) rfl (siz rfl) (fun _ => rfl) (fun _ => rfl) rfl rfl ?_
    refine DL_nil fun _ => ?_
    refine X_seq ?_
    refine T_ret ?_
    rw [List.drop_zero, dl_take _ 8 _ 4 (by omega), if_neg (show ¬ 8 = 4 by decide), dl_drop, dl_take _ (8 - 4) _ 4 (by omega)]
    skip
    ((first | refine X_fin_ret ?_ | refine X_fin ?_); exact ⟨[_, _], [], .cons (.agg 3 rfl (und rfl) rfl rfl (siz rfl)) (.cons (.agg 4 rfl (und rfl) rfl rfl (siz rfl)) .nil), Emb.nil _, rfl, rfl⟩)
end Go.Proofs.YtchoncjikdfbgaaDoor
