import Derived.Test.YtjolmphkmfbpbaaDoorP0
import Derived.Test.YtjolmphkmfbpbaaDoorP1
/- A word of bytes. -/
namespace Go.Proofs.YtjolmphkmfbpbaaDoor
open Go.RowKit
set_option maxRecDepth 20000
set_option maxHeartbeats 4000000
theorem wfrom_any (n x : Nat) (hx : x < 256 ^ n) (hn : n ≤ 9223372036854775807) (v : Value) (w : World) (hr : Rd w v .u8 (bel n x)) : Fn Tryd.prog 31 #[v] w fun u N => u = W (x % 2 ^ 256) ∧ N = [] := by
  by_cases h : 32 < n
  · have hr2 : Rd w (vDrop (n - 32) v) .u8 (bel 32 (x % 2 ^ 256)) := by
      have := hr.dropV (j := n - 32) (by rw [bel_length]; omega)
      rw [bel_drop _ _ _ (by omega), show n - (n - 32) = 32 by omega] at this
      rw [show (2 : Nat) ^ 256 = 256 ^ 32 by decide, bel_mod]
      exact this
    have hy : x % 2 ^ 256 < 256 ^ 32 := Nat.mod_lt _ (by decide)
    generalize x % 2 ^ 256 = y at *
    clear hx
    refine Fn_of (args := [v]) Tryd.func31 rfl Tryd.ntmps31 Tryd.results31 (by simp) ?_
    refine T_sr ?_
    refine S_allocA (zer rfl) rfl rfl fun _ => ?_
    refine S_nx ?_
    refine T_sr ?_
    refine S_allocA (zer rfl) rfl rfl fun _ => ?_
    refine S_nx ?_
    refine T_seq ?_
    refine T_sr ?_
    refine S_mv rfl rfl rfl ?_
    refine S_val rfl rfl (Y_lenV rfl (und rfl) rfl (fun _ hs => Rd.st (by assumption) hs) (bel_length _ _)) ?_
    refine S_val rfl rfl (Y_gtr_t rfl rfl (by omega)) ?_
    refine S_nx ?_
    refine T_cond_true rfl ?_
    refine T_region ?_
    refine S_mv rfl rfl rfl ?_
    refine S_mv rfl rfl rfl ?_
    refine S_val rfl rfl (Y_lenV rfl (und rfl) rfl (fun _ hs => Rd.st (by assumption) hs) (bel_length _ _)) ?_
    refine S_val rfl rfl (Y_subN rfl rfl (nat_cast _) (nat_lit' _) (by omega) (by omega)) ?_
    refine S_val rfl rfl (Y_sliceLoV (und rfl) (siz rfl) rfl rfl (fun _ hs => Rd.st (by assumption) hs) (nat_cast _) (bel_le (by omega))) ?_
    refine S_as rfl rfl rfl ?_
    refine S_nx ?_
    refine T_sr ?_
    refine S_mv rfl rfl rfl ?_
    refine S_val rfl rfl (Y_lenV rfl (und rfl) rfl (fun _ hs => Rd.st (by assumption) hs) (bel_length _ _)) ?_
    refine S_val rfl rfl (Y_subN rfl rfl (nat_lit' _) (nat_cast _) (Nat.le_of_ble_eq_true rfl) (Nat.le_of_ble_eq_true rfl)) ?_
    refine S_val rfl rfl (Y_sliceArrLo (und rfl) (siz rfl) rfl rfl (nat_cast _) (Nat.le_of_ble_eq_true rfl)) ?_
    refine S_mv rfl rfl rfl ?_
    refine S_copyB 1 (kd := .u8) (m := bel 32 y) (n := 32) rfl (und rfl) (siz rfl) rfl rfl rfl (fun w hs => (by first | exact hs.rowRd 0 rfl | exact hs.rowRd 1 rfl | exact hs.rowRd 2 rfl | exact hs.rowRd 3 rfl | exact hs.rowRd 4 rfl | exact hs.rowRd 5 rfl | exact hs.rowRd 6 rfl | exact hs.rowRd 7 rfl | exact hs.rowRd 8 rfl | exact hs.rowRd 9 rfl | exact hs.rowRd 10 rfl | exact hs.rowRd 11 rfl | exact hs.rowRd 12 rfl | exact hs.rowRd 13 rfl | exact Rd.st (by assumption) hs)) (by rw [bel_length]; omega) (by rw [List.length_replicate]; split <;> omega) rfl rfl ?_
    rw [from_all 32 y (by omega) hy]
    refine S_nx ?_
    refine T_sr ?_
    refine S_allocA (zer rfl) rfl rfl fun _ => ?_
    refine S_nx ?_
    refine T_seq ?_
    refine T_sr ?_
    refine S_mv rfl rfl rfl ?_
    refine S_nx ?_
    refine T_block ?_
    rename_i b0 b1 b2
    refine T_loop (α := Nat × Nat) (fun a => a.1 ≤ 4 ∧ a.2 = y % 256 ^ (8 * a.1))
      (fun a => [(2, .pointer (some ⟨b0, 0, none⟩)), (3, .pointer (some ⟨b1, 0, none⟩)), (4, .pointer (some ⟨b2, 0, none⟩)), (21, .int .i64 a.1)])
      (fun a => [blk b0 (.cells (ints .u64 (List.replicate 4 0)) 50 (0, 0)), blk b1 (.cells (ints .u8 (bel 32 y)) 33 (0, 0)), blk b2 (.cells (ints .u64 (dl 18446744073709551616 4 (a.2))) 50 (0, 0))])
      (fun a => 4 - a.1) (0, 0) (by simp [Nat.mod_one]) (by repeat (first | exact Env.sub_nil _ | (apply Env.sub_cons; rfl))) [] rfl ?_
    rintro ⟨i, s⟩ ⟨hi, hs⟩
    dsimp only at hi hs ⊢
    by_cases h : i < 4
    · refine T_sr ?_
      refine S_val rfl rfl (Y_lss_t rfl rfl (by omega)) ?_
      refine S_nx ?_
      refine T_seq ?_
      refine T_cond_true rfl ?_
      refine T_skip ?_
      refine X_seq ?_
      refine T_seq ?_
      refine T_block ?_
      refine T_sr ?_
      refine S_mv rfl rfl rfl ?_
      refine S_as rfl rfl rfl ?_
      refine S_nx ?_
      refine T_sr ?_
      refine S_mv rfl rfl rfl ?_
      refine S_nx ?_
      refine T_block ?_
      refine T_loop (α := Nat × Nat) (fun a => a.1 ≤ 8 ∧ a.2 = y % 256 ^ (8 * i + a.1))
        (fun a => [(2, .pointer (some ⟨b0, 0, none⟩)), (3, .pointer (some ⟨b1, 0, none⟩)), (4, .pointer (some ⟨b2, 0, none⟩)), (5, .int .i64 i), (21, .int .i64 i), (24, .int .i64 a.1)])
        (fun a => [blk b0 (.cells (ints .u64 (List.replicate 4 0)) 50 (0, 0)), blk b1 (.cells (ints .u8 (bel 32 y)) 33 (0, 0)), blk b2 (.cells (ints .u64 (dl 18446744073709551616 4 (a.2))) 50 (0, 0))])
        (fun a => 8 - a.1) (0, s) (by simpa using hs) (by repeat (first | exact Env.sub_nil _ | (apply Env.sub_cons; rfl))) [] rfl ?_
      rintro ⟨k, t⟩ ⟨hk, ht⟩
      dsimp only at hk ht ⊢
      by_cases h2 : k < 8
      · have hc := dig256_lt y (32 - 1 - (31 - 8 * i - k))
        have ht2 : t / 256 ^ (8 * i + k) % 256 = 0 := by
          rw [ht, Nat.div_eq_of_lt (Nat.mod_lt _ (Nat.pow_pos (by omega)))]
        have hd := digit_lt t i
        have he : y % 256 ^ (8 * i + (k + 1)) = t + y / 256 ^ (32 - 1 - (31 - 8 * i - k)) % 256 * 256 ^ (8 * i + k) := by
          rw [← Nat.add_assoc, mod_pow_succ', ← ht, show 32 - 1 - (31 - 8 * i - k) = 8 * i + k by omega]
        have hw : y / 256 ^ (32 - 1 - (31 - 8 * i - k)) % 256 * 2 ^ (8 * k) % 18446744073709551616 < 18446744073709551616 := Nat.mod_lt _ (by omega)
        refine T_sr ?_
        refine S_val rfl rfl (Y_lss_t rfl rfl (by omega)) ?_
        refine S_nx ?_
        refine T_seq ?_
        refine T_cond_true rfl ?_
        refine T_skip ?_
        refine X_seq ?_
        refine T_seq ?_
        refine T_block ?_
        refine T_sr ?_
        refine S_mv rfl rfl rfl ?_
        refine S_as rfl rfl rfl ?_
        refine S_nx ?_
        refine T_drawP (.succ (.succ (.succ (.succ (.succ (.succ (.succ (.succ (.succ (.succ (.succ (.succ (.succ (.succ (.succ (.succ .zero)))))))))))))))) (by kernel_rfl) (by kernel_rfl) (by kernel_rfl) (by kernel_rfl) ?_
        refine D0_val rfl rfl rfl (Y_move rfl) ?_
        refine D0_val rfl rfl rfl (Y_ixa (und rfl) (siz rfl) rfl rfl (nat_cast _) (by assumption)) ?_
        refine D0_valM rfl rfl rfl (Y_loadI 2 (und rfl) rfl rfl rfl (dl_get (by assumption))) ?_
        refine D0_val rfl rfl rfl (Y_move rfl) ?_
        refine D0_val rfl rfl rfl (Y_mulN rfl rfl (nat_lit' _) (nat_cast _) (by omega)) ?_
        refine D0_val rfl rfl rfl (Y_subN rfl rfl (nat_lit' _) (nat_cast _) (by omega) (Nat.le_of_ble_eq_true rfl)) ?_
        refine D0_val rfl rfl rfl (Y_move rfl) ?_
        refine D0_val rfl rfl rfl (Y_subN rfl rfl (nat_cast _) (nat_cast _) (by omega) (by omega)) ?_
        refine D0_val rfl rfl rfl (Y_ixa (und rfl) (siz rfl) rfl rfl (nat_cast _) (by omega)) ?_
        refine D0_valM rfl rfl rfl (Y_loadI 1 (und rfl) rfl rfl rfl (bel_get (by omega))) ?_
        refine D0_valM rfl rfl rfl (Y_conv (und rfl) (und rfl) rfl (wu64 (by omega) (by omega))) ?_
        refine D0_val rfl rfl rfl (Y_move rfl) ?_
        refine D0_val rfl rfl rfl (Y_mulN rfl rfl (nat_lit' _) (nat_cast _) (by omega)) ?_
        refine D0_val rfl rfl rfl (Y_shlN rfl rfl (nat_cast _) (nat_cast _) rfl pw64) ?_
        refine D0_val rfl rfl rfl (Y_or rfl rfl (nat_cast _) (nat_cast _) rfl (by simp only [IntKind.bits]; assumption) (by simp only [IntKind.bits]; assumption)) ?_
        refine D0_val rfl rfl rfl (Y_ixa (und rfl) (siz rfl) rfl rfl (nat_cast _) (by assumption)) ?_
        refine D0_nilS ?_
        refine S_storeI 2 (siz rfl) rfl rfl rfl (by simp; omega) rfl rfl ?_
        refine S_nil ?_
        refine X_blk ?_
        refine X_seq ?_
        refine T_region ?_
        refine S_val rfl rfl (Y_addN rfl rfl (nat_cast _) (nat_lit' _) (by omega)) ?_
        refine S_mv rfl rfl rfl ?_
        refine S_nil ?_
        refine X_loop ?_
        refine ⟨(k + 1, y % 256 ^ (8 * i + (k + 1))), ⟨by dsimp only; omega, rfl⟩, by dsimp only; omega, (by repeat (first | exact Env.sub_nil _ | (apply Env.sub_cons; rfl))), [], ?_⟩
        rw [he, ← lay8 h2 h ht2 hc]
        rfl
      · obtain rfl : k = 8 := by omega
        refine T_sr ?_
        refine S_val rfl rfl (Y_lss_f rfl rfl (by decide)) ?_
        refine S_nx ?_
        refine T_seq ?_
        refine T_cond_false rfl ?_
        refine T_exit ?_
        refine X_seq_exit ?_
        refine X_loop_exit ?_
        refine X_blk_hit rfl ?_
        refine X_blk ?_
        refine X_seq ?_
        refine T_region ?_
        refine S_val rfl rfl (Y_addN rfl rfl (nat_cast _) (nat_lit' _) (by omega)) ?_
        refine S_mv rfl rfl rfl ?_
        refine S_nil ?_
        refine X_loop ?_
        exact ⟨(i + 1, t), ⟨by dsimp only; omega, by dsimp only; rw [ht, Nat.mul_add]⟩, by dsimp only; omega, (by repeat (first | exact Env.sub_nil _ | (apply Env.sub_cons; rfl))), [], rfl⟩
    · obtain rfl : i = 4 := by omega
      refine T_sr ?_
      refine S_val rfl rfl (Y_lss_f rfl rfl (by decide)) ?_
      refine S_nx ?_
      refine T_seq ?_
      refine T_cond_false rfl ?_
      refine T_exit ?_
      refine X_seq_exit ?_
      refine X_loop_exit ?_
      refine X_blk_hit rfl ?_
      refine X_seq ?_
      refine T_sr ?_
      refine S_val rfl rfl (Y_loadAI 2 (und rfl) rfl rfl rfl (siz rfl) (dl_length _ _ _)) ?_
      refine S_storeAI 0 (siz rfl) rfl rfl rfl rfl (dl_length _ _ _) rfl ?_
      refine S_nx ?_
      refine T_ret ?_
      ((first | refine X_fin_ret ?_ | refine X_fin ?_); exact ⟨[_], [], .cons (.agg 0 rfl (und rfl) rfl rfl (siz rfl)) .nil, Emb.nil _, by rw [hs, Nat.mod_eq_of_lt hy]; rfl, rfl⟩)
  · have hy := hx
    have hx2 : x % 2 ^ 256 = x := Nat.mod_eq_of_lt (Nat.lt_of_lt_of_le hx (Nat.le_trans (Nat.pow_le_pow_right (by omega) (show n ≤ 32 by omega)) (by decide)))
    have hx3 : x % 256 ^ (8 * 4) = x := hx2
    rw [hx2]
    clear hx
    refine Fn_of (args := [v]) Tryd.func31 rfl Tryd.ntmps31 Tryd.results31 (by simp) ?_
    refine T_sr ?_
    refine S_allocA (zer rfl) rfl rfl fun _ => ?_
    refine S_nx ?_
    refine T_sr ?_
    refine S_allocA (zer rfl) rfl rfl fun _ => ?_
    refine S_nx ?_
    refine T_seq ?_
    refine T_sr ?_
    refine S_mv rfl rfl rfl ?_
    refine S_val rfl rfl (Y_lenV rfl (und rfl) rfl (fun _ hs => Rd.st (by assumption) hs) (bel_length _ _)) ?_
    refine S_val rfl rfl (Y_gtr_f rfl rfl (by omega)) ?_
    refine S_nx ?_
    refine T_cond_false rfl ?_
    refine T_skip ?_
    refine X_seq ?_
    refine T_sr ?_
    refine S_mv rfl rfl rfl ?_
    refine S_val rfl rfl (Y_lenV rfl (und rfl) rfl (fun _ hs => Rd.st (by assumption) hs) (bel_length _ _)) ?_
    refine S_val rfl rfl (Y_subN rfl rfl (nat_lit' _) (nat_cast _) (by omega) (Nat.le_of_ble_eq_true rfl)) ?_
    refine S_val rfl rfl (Y_sliceArrLo (und rfl) (siz rfl) rfl rfl (nat_cast _) (by omega)) ?_
    refine S_mv rfl rfl rfl ?_
    refine S_copyB 1 (kd := .u8) (m := bel n x) (n := n) rfl (und rfl) (siz rfl) rfl rfl rfl (fun w hs => (by first | exact hs.rowRd 0 rfl | exact hs.rowRd 1 rfl | exact hs.rowRd 2 rfl | exact hs.rowRd 3 rfl | exact hs.rowRd 4 rfl | exact hs.rowRd 5 rfl | exact hs.rowRd 6 rfl | exact hs.rowRd 7 rfl | exact hs.rowRd 8 rfl | exact hs.rowRd 9 rfl | exact hs.rowRd 10 rfl | exact hs.rowRd 11 rfl | exact hs.rowRd 12 rfl | exact hs.rowRd 13 rfl | exact Rd.st (by assumption) hs)) (by rw [bel_length]; omega) (by rw [List.length_replicate]; split <;> omega) rfl rfl ?_
    rw [from_all n x (by omega) hy]
    refine S_nx ?_
    refine T_sr ?_
    refine S_allocA (zer rfl) rfl rfl fun _ => ?_
    refine S_nx ?_
    refine T_seq ?_
    refine T_sr ?_
    refine S_mv rfl rfl rfl ?_
    refine S_nx ?_
    refine T_block ?_
    rename_i b0 b1 b2
    refine T_loop (α := Nat × Nat) (fun a => a.1 ≤ 4 ∧ a.2 = x % 256 ^ (8 * a.1))
      (fun a => [(2, .pointer (some ⟨b0, 0, none⟩)), (3, .pointer (some ⟨b1, 0, none⟩)), (4, .pointer (some ⟨b2, 0, none⟩)), (21, .int .i64 a.1)])
      (fun a => [blk b0 (.cells (ints .u64 (List.replicate 4 0)) 50 (0, 0)), blk b1 (.cells (ints .u8 (bel 32 x)) 33 (0, 0)), blk b2 (.cells (ints .u64 (dl 18446744073709551616 4 (a.2))) 50 (0, 0))])
      (fun a => 4 - a.1) (0, 0) (by simp [Nat.mod_one]) (by repeat (first | exact Env.sub_nil _ | (apply Env.sub_cons; rfl))) [] rfl ?_
    rintro ⟨i, s⟩ ⟨hi, hs⟩
    dsimp only at hi hs ⊢
    by_cases h : i < 4
    · refine T_sr ?_
      refine S_val rfl rfl (Y_lss_t rfl rfl (by omega)) ?_
      refine S_nx ?_
      refine T_seq ?_
      refine T_cond_true rfl ?_
      refine T_skip ?_
      refine X_seq ?_
      refine T_seq ?_
      refine T_block ?_
      refine T_sr ?_
      refine S_mv rfl rfl rfl ?_
      refine S_as rfl rfl rfl ?_
      refine S_nx ?_
      refine T_sr ?_
      refine S_mv rfl rfl rfl ?_
      refine S_nx ?_
      refine T_block ?_
      refine T_loop (α := Nat × Nat) (fun a => a.1 ≤ 8 ∧ a.2 = x % 256 ^ (8 * i + a.1))
        (fun a => [(2, .pointer (some ⟨b0, 0, none⟩)), (3, .pointer (some ⟨b1, 0, none⟩)), (4, .pointer (some ⟨b2, 0, none⟩)), (5, .int .i64 i), (21, .int .i64 i), (24, .int .i64 a.1)])
        (fun a => [blk b0 (.cells (ints .u64 (List.replicate 4 0)) 50 (0, 0)), blk b1 (.cells (ints .u8 (bel 32 x)) 33 (0, 0)), blk b2 (.cells (ints .u64 (dl 18446744073709551616 4 (a.2))) 50 (0, 0))])
        (fun a => 8 - a.1) (0, s) (by simpa using hs) (by repeat (first | exact Env.sub_nil _ | (apply Env.sub_cons; rfl))) [] rfl ?_
      rintro ⟨k, t⟩ ⟨hk, ht⟩
      dsimp only at hk ht ⊢
      by_cases h2 : k < 8
      · have hc := dig256_lt x (32 - 1 - (31 - 8 * i - k))
        have ht2 : t / 256 ^ (8 * i + k) % 256 = 0 := by
          rw [ht, Nat.div_eq_of_lt (Nat.mod_lt _ (Nat.pow_pos (by omega)))]
        have hd := digit_lt t i
        have he : x % 256 ^ (8 * i + (k + 1)) = t + x / 256 ^ (32 - 1 - (31 - 8 * i - k)) % 256 * 256 ^ (8 * i + k) := by
          rw [← Nat.add_assoc, mod_pow_succ', ← ht, show 32 - 1 - (31 - 8 * i - k) = 8 * i + k by omega]
        have hw : x / 256 ^ (32 - 1 - (31 - 8 * i - k)) % 256 * 2 ^ (8 * k) % 18446744073709551616 < 18446744073709551616 := Nat.mod_lt _ (by omega)
        refine T_sr ?_
        refine S_val rfl rfl (Y_lss_t rfl rfl (by omega)) ?_
        refine S_nx ?_
        refine T_seq ?_
        refine T_cond_true rfl ?_
        refine T_skip ?_
        refine X_seq ?_
        refine T_seq ?_
        refine T_block ?_
        refine T_sr ?_
        refine S_mv rfl rfl rfl ?_
        refine S_as rfl rfl rfl ?_
        refine S_nx ?_
        refine T_drawP (.succ (.succ (.succ (.succ (.succ (.succ (.succ (.succ (.succ (.succ (.succ (.succ (.succ (.succ (.succ (.succ .zero)))))))))))))))) (by kernel_rfl) (by kernel_rfl) (by kernel_rfl) (by kernel_rfl) ?_
        refine D0_val rfl rfl rfl (Y_move rfl) ?_
        refine D0_val rfl rfl rfl (Y_ixa (und rfl) (siz rfl) rfl rfl (nat_cast _) (by assumption)) ?_
        refine D0_valM rfl rfl rfl (Y_loadI 2 (und rfl) rfl rfl rfl (dl_get (by assumption))) ?_
        refine D0_val rfl rfl rfl (Y_move rfl) ?_
        refine D0_val rfl rfl rfl (Y_mulN rfl rfl (nat_lit' _) (nat_cast _) (by omega)) ?_
        refine D0_val rfl rfl rfl (Y_subN rfl rfl (nat_lit' _) (nat_cast _) (by omega) (Nat.le_of_ble_eq_true rfl)) ?_
        refine D0_val rfl rfl rfl (Y_move rfl) ?_
        refine D0_val rfl rfl rfl (Y_subN rfl rfl (nat_cast _) (nat_cast _) (by omega) (by omega)) ?_
        refine D0_val rfl rfl rfl (Y_ixa (und rfl) (siz rfl) rfl rfl (nat_cast _) (by omega)) ?_
        refine D0_valM rfl rfl rfl (Y_loadI 1 (und rfl) rfl rfl rfl (bel_get (by omega))) ?_
        refine D0_valM rfl rfl rfl (Y_conv (und rfl) (und rfl) rfl (wu64 (by omega) (by omega))) ?_
        refine D0_val rfl rfl rfl (Y_move rfl) ?_
        refine D0_val rfl rfl rfl (Y_mulN rfl rfl (nat_lit' _) (nat_cast _) (by omega)) ?_
        refine D0_val rfl rfl rfl (Y_shlN rfl rfl (nat_cast _) (nat_cast _) rfl pw64) ?_
        refine D0_val rfl rfl rfl (Y_or rfl rfl (nat_cast _) (nat_cast _) rfl (by simp only [IntKind.bits]; assumption) (by simp only [IntKind.bits]; assumption)) ?_
        refine D0_val rfl rfl rfl (Y_ixa (und rfl) (siz rfl) rfl rfl (nat_cast _) (by assumption)) ?_
        refine D0_nilS ?_
        refine S_storeI 2 (siz rfl) rfl rfl rfl (by simp; omega) rfl rfl ?_
        refine S_nil ?_
        refine X_blk ?_
        refine X_seq ?_
        refine T_region ?_
        refine S_val rfl rfl (Y_addN rfl rfl (nat_cast _) (nat_lit' _) (by omega)) ?_
        refine S_mv rfl rfl rfl ?_
        refine S_nil ?_
        refine X_loop ?_
        refine ⟨(k + 1, x % 256 ^ (8 * i + (k + 1))), ⟨by dsimp only; omega, rfl⟩, by dsimp only; omega, (by repeat (first | exact Env.sub_nil _ | (apply Env.sub_cons; rfl))), [], ?_⟩
        rw [he, ← lay8 h2 h ht2 hc]
        rfl
      · obtain rfl : k = 8 := by omega
        refine T_sr ?_
        refine S_val rfl rfl (Y_lss_f rfl rfl (by decide)) ?_
        refine S_nx ?_
        refine T_seq ?_
        refine T_cond_false rfl ?_
        refine T_exit ?_
        refine X_seq_exit ?_
        refine X_loop_exit ?_
        refine X_blk_hit rfl ?_
        refine X_blk ?_
        refine X_seq ?_
        refine T_region ?_
        refine S_val rfl rfl (Y_addN rfl rfl (nat_cast _) (nat_lit' _) (by omega)) ?_
        refine S_mv rfl rfl rfl ?_
        refine S_nil ?_
        refine X_loop ?_
        exact ⟨(i + 1, t), ⟨by dsimp only; omega, by dsimp only; rw [ht, Nat.mul_add]⟩, by dsimp only; omega, (by repeat (first | exact Env.sub_nil _ | (apply Env.sub_cons; rfl))), [], rfl⟩
    · obtain rfl : i = 4 := by omega
      refine T_sr ?_
      refine S_val rfl rfl (Y_lss_f rfl rfl (by decide)) ?_
      refine S_nx ?_
      refine T_seq ?_
      refine T_cond_false rfl ?_
      refine T_exit ?_
      refine X_seq_exit ?_
      refine X_loop_exit ?_
      refine X_blk_hit rfl ?_
      refine X_seq ?_
      refine T_sr ?_
      refine S_val rfl rfl (Y_loadAI 2 (und rfl) rfl rfl rfl (siz rfl) (dl_length _ _ _)) ?_
      refine S_storeAI 0 (siz rfl) rfl rfl rfl rfl (dl_length _ _ _) rfl ?_
      refine S_nx ?_
      refine T_ret ?_
      ((first | refine X_fin_ret ?_ | refine X_fin ?_); exact ⟨[_], [], .cons (.agg 0 rfl (und rfl) rfl rfl (siz rfl)) .nil, Emb.nil _, by rw [hs, hx3]; rfl, rfl⟩)
theorem rfrom_any (n x : Nat) (hx : x < 256 ^ n) (hn : n ≤ 9223372036854775807) (v : Value) (w : World) (hr : Rd w v .u8 (bel n x)) : Fn Tryd.prog 68 #[v] w fun u N => u = D x ∧ N = [] := by
  refine Fn_of (args := [v]) Tryd.func68 rfl Tryd.ntmps68 Tryd.results68 (by simp) ?_
  refine T_sr ?_
  refine S_allocA (zer rfl) rfl rfl fun _ => ?_
  refine S_nx ?_
  refine T_sr ?_
  refine S_val rfl rfl (Y_build (und rfl) (siz rfl) (zer rfl) rfl rfl) ?_
  refine S_allocA (zer rfl) rfl rfl fun _ => ?_
  refine S_storeAI 1 (siz rfl) rfl rfl rfl rfl rfl rfl ?_
  refine S_nx ?_
  refine T_seq ?_
  refine T_sr ?_
  refine S_as rfl rfl rfl ?_
  refine S_nx ?_
  refine T_block ?_
  rename_i b0 b1
  refine T_loop (α := Nat × Nat) (fun a => a.1 ≤ 32 ∧ a.1 ≤ n ∧ a.2 = x % 256 ^ a.1)
    (fun a => [(0, v), (2, .pointer (some ⟨b0, 0, none⟩)), (3, .pointer (some ⟨b1, 0, none⟩)), (4, .int .i64 a.1)])
    (fun a => [blk b0 (.cells (ints .i64 (List.replicate 32 0)) 104 (0, 0)), blk b1 (.cells (ints .i64 (dl 256 32 (a.2))) 104 (0, 0))])
    (fun a => 32 - a.1) (0, 0) (by simp [Nat.mod_one]) (by repeat (first | exact Env.sub_nil _ | (apply Env.sub_cons; rfl))) [] rfl ?_
  rintro ⟨i, s⟩ ⟨hi, hin, hs⟩
  dsimp only at hi hin hs ⊢
  by_cases h : i < 32
  · by_cases h2 : i < n
    · have hc := dig256_lt x (n - 1 - (n - 1 - i))
      have hc2 := dig256_lt x i
      refine T_seq ?_
      refine T_sr ?_
      refine S_mv rfl rfl rfl ?_
      refine S_val rfl rfl (Y_lss_t rfl rfl (by omega)) ?_
      refine S_mv rfl rfl rfl ?_
      refine S_mv rfl rfl rfl ?_
      refine S_mv rfl rfl rfl ?_
      refine S_val rfl rfl (Y_lenV rfl (und rfl) rfl (fun _ hs => Rd.st (by assumption) hs) (bel_length _ _)) ?_
      refine S_val rfl rfl (Y_lss_t rfl rfl (by omega)) ?_
      refine S_val rfl rfl (Y_pick_t rfl rfl) ?_
      refine S_nx ?_
      refine T_cond_true rfl ?_
      refine T_skip ?_
      refine X_seq ?_
      refine T_seq ?_
      refine T_block ?_
      refine T_region ?_
      refine S_mv rfl rfl rfl ?_
      refine S_mv rfl rfl rfl ?_
      refine S_mv rfl rfl rfl ?_
      refine S_val rfl rfl (Y_lenV rfl (und rfl) rfl (fun _ hs => Rd.st (by assumption) hs) (bel_length _ _)) ?_
      refine S_val rfl rfl (Y_subN rfl rfl (nat_cast _) (nat_lit' _) (by omega) (by omega)) ?_
      refine S_mv rfl rfl rfl ?_
      refine S_val rfl rfl (Y_subN rfl rfl (nat_cast _) (nat_cast _) (by omega) (by omega)) ?_
      refine S_val rfl rfl (Y_ixV (und rfl) (siz rfl) rfl rfl (fun _ hs => Rd.st (by assumption) hs) (nat_cast _) (by simp; omega)) ?_
      refine S_val rfl rfl (Y_loadV (und rfl) rfl rfl (fun _ hs => Rd.st (by assumption) hs) (bel_get (by omega))) ?_
      refine S_val rfl rfl (Y_conv (und rfl) (und rfl) rfl (wi64 (by omega) (by omega))) ?_
      refine S_val rfl rfl (Y_ixa (und rfl) (siz rfl) rfl rfl (nat_cast _) (by assumption)) ?_
      refine S_storeI 1 (siz rfl) rfl rfl rfl (by simp; omega) rfl rfl ?_
      refine S_nil ?_
      refine X_blk ?_
      refine X_seq ?_
      refine T_region ?_
      refine S_mv rfl rfl rfl ?_
      refine S_val rfl rfl (Y_addN rfl rfl (nat_cast _) (nat_lit' _) (by omega)) ?_
      refine S_as rfl rfl rfl ?_
      refine S_nil ?_
      refine X_loop ?_
      refine ⟨(i + 1, x % 256 ^ (i + 1)), ⟨by dsimp only; omega, by dsimp only; omega, rfl⟩, by dsimp only; omega, (by repeat (first | exact Env.sub_nil _ | (apply Env.sub_cons; rfl))), [], ?_⟩
      rw [show n - 1 - (n - 1 - i) = i by omega, dl_set (by omega) (by rw [hs]; exact Nat.mod_lt _ (Nat.pow_pos (by omega))) hc2, hs, ← mod_pow_succ']
      rfl
    · obtain rfl : i = n := by omega
      refine T_seq ?_
      refine T_sr ?_
      refine S_mv rfl rfl rfl ?_
      refine S_val rfl rfl (Y_lss_t rfl rfl (by omega)) ?_
      refine S_mv rfl rfl rfl ?_
      refine S_mv rfl rfl rfl ?_
      refine S_mv rfl rfl rfl ?_
      refine S_val rfl rfl (Y_lenV rfl (und rfl) rfl (fun _ hs => Rd.st (by assumption) hs) (bel_length _ _)) ?_
      refine S_val rfl rfl (Y_lss_f rfl rfl (by omega)) ?_
      refine S_val rfl rfl (Y_pick_t rfl rfl) ?_
      refine S_nx ?_
      refine T_cond_false rfl ?_
      refine T_exit ?_
      refine X_seq_exit ?_
      refine X_loop_exit ?_
      refine X_blk_hit rfl ?_
      refine X_seq ?_
      refine T_sr ?_
      refine S_val rfl rfl (Y_loadAI 1 (und rfl) rfl rfl rfl (siz rfl) (dl_length _ _ _)) ?_
      refine S_storeAI 0 (siz rfl) rfl rfl rfl rfl (dl_length _ _ _) rfl ?_
      refine S_nx ?_
      refine T_ret ?_
      ((first | refine X_fin_ret ?_ | refine X_fin ?_); exact ⟨[_], [], .cons (.agg 0 rfl (und rfl) rfl rfl (siz rfl)) .nil, Emb.nil _, by rw [hs, Nat.mod_eq_of_lt hx]; rfl, rfl⟩)
  · obtain rfl : i = 32 := by omega
    refine T_seq ?_
    refine T_sr ?_
    refine S_mv rfl rfl rfl ?_
    refine S_val rfl rfl (Y_lss_f rfl rfl (by decide)) ?_
    refine S_mv rfl rfl rfl ?_
    refine S_skip rfl rfl ?_
    refine S_skip rfl rfl ?_
    refine S_skip rfl rfl ?_
    refine S_skip rfl rfl ?_
    refine S_val rfl rfl (Y_pick_f rfl rfl) ?_
    refine S_nx ?_
    refine T_cond_false rfl ?_
    refine T_exit ?_
    refine X_seq_exit ?_
    refine X_loop_exit ?_
    refine X_blk_hit rfl ?_
    refine X_seq ?_
    refine T_sr ?_
    refine S_val rfl rfl (Y_loadAI 1 (und rfl) rfl rfl rfl (siz rfl) (dl_length _ _ _)) ?_
    refine S_storeAI 0 (siz rfl) rfl rfl rfl rfl (dl_length _ _ _) rfl ?_
    refine S_nx ?_
    refine T_ret ?_
    ((first | refine X_fin_ret ?_ | refine X_fin ?_); exact ⟨[_], [], .cons (.agg 0 rfl (und rfl) rfl rfl (siz rfl)) .nil, Emb.nil _, by rw [hs]; unfold D; rw [dl_mod]; rfl, rfl⟩)
end Go.Proofs.YtjolmphkmfbpbaaDoor
/- Package modexp: numbers to the base 2^32; the first half. -/
namespace Go.Proofs.YtjolmphkmfbpbaaDoor
open Go.RowKit
set_option maxRecDepth 20000
set_option maxHeartbeats 4000000
theorem dig32_lt (x i : Nat) : x / 4294967296 ^ i % 4294967296 < 4294967296 := Nat.mod_lt _ (by omega)
theorem row.trim {x m : Nat} {v : Value} {h : PH} (hr : row .u32 (dl 4294967296 m x) v h) (hm : tr x ≤ m) : row .u32 (dl 4294967296 (tr x) x) (vTake (tr x) v) h := by
  have := hr.take (n := tr x) (by rwa [dl_length])
  rwa [dl_take _ _ _ _ hm] at this
theorem trim_any (x m : Nat) (hx : x < 4294967296 ^ m) (hm : m ≤ 1000000) (v : Value) (w : World) (hr : Rd w v .u32 (dl 4294967296 m x)) : Fn Tryd.prog 64 #[v] w fun u N => u = vTake (tr x) v ∧ N = [] := by
  refine Fn_of (args := [v]) Tryd.func64 rfl Tryd.ntmps64 Tryd.results64 (by simp) ?_
  refine T_sr ?_
  refine S_as rfl rfl rfl ?_
  refine S_nx ?_
  refine T_sr ?_
  refine S_mv rfl rfl rfl ?_
  refine S_val rfl rfl (Y_lenV rfl (und rfl) rfl (fun _ hs => Rd.st (by assumption) hs) (dl_length _ _ _)) ?_
  refine S_as rfl rfl rfl ?_
  refine S_nx ?_
  refine T_seq ?_
  refine T_block ?_
  refine T_loop (α := Nat) (fun j => j ≤ m ∧ x < 4294967296 ^ j)
    (fun j => [(0, v), (3, .int .i64 j)])
    (fun j => [])
    (fun j => j) m ⟨Nat.le_refl _, hx⟩ (by repeat (first | exact Env.sub_nil _ | (apply Env.sub_cons; rfl))) [] rfl ?_
  rintro j ⟨hj, hxj⟩
  by_cases h : j = 0
  · subst h
    have hx0 : x = 0 := by simpa using hxj
    refine T_seq ?_
    refine T_sr ?_
    refine S_mv rfl rfl rfl ?_
    refine S_val rfl rfl (Y_gtr_f rfl rfl (by decide)) ?_
    refine S_mv rfl rfl rfl ?_
    refine S_skip rfl rfl ?_
    refine S_skip rfl rfl ?_
    refine S_skip rfl rfl ?_
    refine S_skip rfl rfl ?_
    refine S_skip rfl rfl ?_
    refine S_skip rfl rfl ?_
    refine S_val rfl rfl (Y_pick_f rfl rfl) ?_
    refine S_nx ?_
    refine T_cond_false rfl ?_
    refine T_exit ?_
    refine X_seq_exit ?_
    refine X_loop_exit ?_
    refine X_blk_hit rfl ?_
    refine X_seq ?_
    refine T_sr ?_
    refine S_mv rfl rfl rfl ?_
    refine S_mv rfl rfl rfl ?_
    refine S_val rfl rfl (Y_sliceHiV (und rfl) (siz rfl) rfl rfl (fun _ hs => Rd.st (by assumption) hs) (nat_cast _) (dl_le (Nat.le_of_ble_eq_true rfl))) ?_
    refine S_as rfl rfl rfl ?_
    refine S_nx ?_
    refine T_ret ?_
    ((first | refine X_fin_ret ?_ | refine X_fin ?_); exact ⟨[_], [], .cons (.tmp rfl) .nil, Emb.nil _, by rw [hx0]; rfl, rfl⟩)
  · obtain ⟨i, rfl⟩ : ∃ i, j = i + 1 := ⟨j - 1, by omega⟩
    by_cases h2 : x / 4294967296 ^ i % 4294967296 = 0
    · have h3 : ((x / 4294967296 ^ (i + 1 - 1) % 4294967296 : Nat) : Int) = 0 := by rw [Nat.add_sub_cancel, h2]; rfl
      refine T_seq ?_
      refine T_sr ?_
      refine S_mv rfl rfl rfl ?_
      refine S_val rfl rfl (Y_gtr_t rfl rfl (by omega)) ?_
      refine S_mv rfl rfl rfl ?_
      refine S_mv rfl rfl rfl ?_
      refine S_mv rfl rfl rfl ?_
      refine S_val rfl rfl (Y_subN rfl rfl (nat_cast _) (nat_lit' _) (Nat.le_of_ble_eq_true rfl) (by omega)) ?_
      refine S_val rfl rfl (Y_ixV (und rfl) (siz rfl) rfl rfl (fun _ hs => Rd.st (by assumption) hs) (nat_cast _) (dl_lt (by assumption))) ?_
      refine S_val rfl rfl (Y_loadV (und rfl) rfl rfl (fun _ hs => Rd.st (by assumption) hs) (dl_get (by assumption))) ?_
      refine S_val rfl rfl (Y_eql_t rfl rfl (by assumption)) ?_
      refine S_val rfl rfl (Y_pick_t rfl rfl) ?_
      refine S_nx ?_
      refine T_cond_true rfl ?_
      refine T_skip ?_
      refine X_seq ?_
      refine T_block ?_
      refine T_region ?_
      refine S_mv rfl rfl rfl ?_
      refine S_val rfl rfl (Y_subN rfl rfl (nat_cast _) (nat_lit' _) (Nat.le_of_ble_eq_true rfl) (by omega)) ?_
      refine S_as rfl rfl rfl ?_
      refine S_nil ?_
      refine X_blk ?_
      refine X_loop ?_
      exact ⟨i, ⟨by omega, tr_cut hxj h2⟩, by omega, (by repeat (first | exact Env.sub_nil _ | (apply Env.sub_cons; rfl))), [], rfl⟩
    · have h3 : ¬ ((x / 4294967296 ^ (i + 1 - 1) % 4294967296 : Nat) : Int) = 0 := by rw [Nat.add_sub_cancel]; omega
      refine T_seq ?_
      refine T_sr ?_
      refine S_mv rfl rfl rfl ?_
      refine S_val rfl rfl (Y_gtr_t rfl rfl (by omega)) ?_
      refine S_mv rfl rfl rfl ?_
      refine S_mv rfl rfl rfl ?_
      refine S_mv rfl rfl rfl ?_
      refine S_val rfl rfl (Y_subN rfl rfl (nat_cast _) (nat_lit' _) (Nat.le_of_ble_eq_true rfl) (by omega)) ?_
      refine S_val rfl rfl (Y_ixV (und rfl) (siz rfl) rfl rfl (fun _ hs => Rd.st (by assumption) hs) (nat_cast _) (dl_lt (by assumption))) ?_
      refine S_val rfl rfl (Y_loadV (und rfl) rfl rfl (fun _ hs => Rd.st (by assumption) hs) (dl_get (by assumption))) ?_
      refine S_val rfl rfl (Y_eql_f rfl rfl (by assumption)) ?_
      refine S_val rfl rfl (Y_pick_t rfl rfl) ?_
      refine S_nx ?_
      refine T_cond_false rfl ?_
      refine T_exit ?_
      refine X_seq_exit ?_
      refine X_loop_exit ?_
      refine X_blk_hit rfl ?_
      refine X_seq ?_
      refine T_sr ?_
      refine S_mv rfl rfl rfl ?_
      refine S_mv rfl rfl rfl ?_
      refine S_val rfl rfl (Y_sliceHiV (und rfl) (siz rfl) rfl rfl (fun _ hs => Rd.st (by assumption) hs) (nat_cast _) (dl_le (by assumption))) ?_
      refine S_as rfl rfl rfl ?_
      refine S_nx ?_
      refine T_ret ?_
      ((first | refine X_fin_ret ?_ | refine X_fin ?_); exact ⟨[_], [], .cons (.tmp rfl) .nil, Emb.nil _, by rw [tr_end hxj h2]; rfl, rfl⟩)
theorem bel_set {n y d t : Nat} (hy : y < 256 ^ t) (hd : d < 256) (ht : t < n) : (bel n y).set (n - 1 - t) ((d : Nat) : Int) = bel n (y + d * 256 ^ t) := by
  apply List.ext_getElem?
  intro i
  rw [List.getElem?_set, bel_length]
  by_cases hi : i < n
  · rw [bel_get hi, bel_get hi, digit_add_lt (by omega) hy hd]
    by_cases h : n - 1 - t = i
    · subst h
      rw [if_pos rfl, if_pos (by omega), if_neg (by omega), if_pos (by omega)]
    · rw [if_neg h]
      split
      · rfl
      · rename_i h2
        rw [if_neg (by omega), Nat.div_eq_of_lt (Nat.lt_of_lt_of_le hy (Nat.pow_le_pow_right (by omega) (by omega)))]
  · rw [List.getElem?_eq_none (by simp; omega), List.getElem?_eq_none (by simp; omega)]
    split
    · rw [if_neg (by omega)]
    · rfl
theorem byte32 (x t e : Nat) (he : e < 4) : x / 4294967296 ^ t % 4294967296 / 2 ^ (8 * e) % 256 = x / 256 ^ (4 * t + e) % 256 := by
  rw [show (4294967296 : Nat) = 256 ^ 4 by decide, ← Nat.pow_mul, Nat.pow_mul 2 8 e, show (2 : Nat) ^ 8 = 256 by decide, Nat.pow_add 256 (4 * t) e, ← Nat.div_div_eq_div_mul]
  generalize x / 256 ^ (4 * t) = z
  have h := digit_mod 256 4 z e he
  exact h
theorem pow_cut (x i k : Nat) : x / 256 ^ k * 256 ^ k = x / 256 ^ (k + 1) * 256 ^ (k + 1) + x / 256 ^ k % 256 * 256 ^ k := by
  have h := Nat.div_add_mod (x / 256 ^ k) 256
  rw [Nat.div_div_eq_div_mul, ← Nat.pow_succ] at h
  conv => lhs; rw [← h]
  rw [Nat.add_mul, Nat.pow_succ, Nat.mul_comm 256 (x / _), Nat.mul_assoc, Nat.mul_comm 256 (256 ^ k)]
theorem mof_any (n x : Nat) (hx : x < 256 ^ n) (hn : n ≤ 1000000) (v : Value) (w : World) (hr : Rd w v .u8 (bel n x)) : Fn Tryd.prog 39 #[v] w fun u N => N = [row .u32 (dl 4294967296 (tr x) x) u] := by
  have hxm : x < 4294967296 ^ ((n + 3) / 4) := by
    rw [show (4294967296 : Nat) = 256 ^ 4 by decide, ← Nat.pow_mul]
    exact Nat.lt_of_lt_of_le hx (Nat.pow_le_pow_right (by omega) (by omega))
  have htr := tr_le hxm
  refine Fn_of (args := [v]) Tryd.func39 rfl Tryd.ntmps39 Tryd.results39 (by simp) ?_
  refine T_sr ?_
  refine S_as rfl rfl rfl ?_
  refine S_nx ?_
  refine T_sr ?_
  refine S_mv rfl rfl rfl ?_
  refine S_val rfl rfl (Y_lenV rfl (und rfl) rfl (fun _ hs => Rd.st (by assumption) hs) (bel_length _ _)) ?_
  refine S_val rfl rfl (Y_addN rfl rfl (nat_cast _) (nat_lit' _) (by omega)) ?_
  refine S_val rfl rfl (Y_quoN rfl rfl (nat_cast _) (nat_lit' _) (Nat.succ_ne_zero _) (by first | with_reducible exact xi64 (by omega) | with_reducible exact x64 (by omega) | with_reducible exact x8 (by omega) | with_reducible exact x32 (by omega))) ?_
  refine S_makeR (und rfl) (siz rfl) (byt rfl) (zer rfl) rfl rfl (nat_cast _) (by omega) rfl rfl rfl fun _ => ?_
  refine S_as rfl rfl rfl ?_
  refine S_nx ?_
  refine T_seq ?_
  refine T_sr ?_
  refine S_mv rfl rfl rfl ?_
  refine S_val rfl rfl (Y_lenV rfl (und rfl) rfl (fun _ hs => Rd.st (by assumption) hs) (bel_length _ _)) ?_
  refine S_mv rfl rfl rfl ?_
  refine S_nx ?_
  refine T_block ?_
  rename_i vo
  refine T_loop (α := Nat) (fun i => i ≤ n)
    (fun i => [(0, v), (3, vo), (12, v), (13, .int .i64 n), (14, .int .i64 i)])
    (fun i => [row .u32 (dl 4294967296 ((n + 3) / 4) (x / 256 ^ (n - i) * 256 ^ (n - i))) vo])
    (fun i => n - i) 0 (by omega) (by repeat (first | exact Env.sub_nil _ | (apply Env.sub_cons; rfl))) [] (by rw [Nat.sub_zero, Nat.div_eq_of_lt hx, Nat.zero_mul, dl_zero]; rfl) ?_
  intro i hi
  refine T_sh 0 rfl fun hsh => ?_
  rw [dl_length] at hsh
  by_cases h : i < n
  · obtain ⟨k, hk⟩ : ∃ k, k = n - 1 - i := ⟨_, rfl⟩
    have hy : x / 256 ^ (n - i) * 256 ^ (n - i) / 256 ^ k % 256 = 0 := by
      rw [show n - i = k + 1 by omega, Nat.pow_succ, Nat.mul_comm (256 ^ k) 256, ← Nat.mul_assoc, Nat.mul_div_cancel _ (Nat.pow_pos (by omega)), Nat.mul_mod_left]
    have hc : x / 256 ^ (n - 1 - i) % 256 < 256 := Nat.mod_lt _ (by omega)
    have hl := lay4 (n := (n + 3) / 4) (t := k) (by omega) hy hc
    have he : x / 256 ^ (n - i) * 256 ^ (n - i) + x / 256 ^ (n - 1 - i) % 256 * 256 ^ k = x / 256 ^ (n - (i + 1)) * 256 ^ (n - (i + 1)) := by
      have := pow_cut x 0 k
      rw [show n - i = k + 1 by omega, show n - 1 - i = k by omega, show n - (i + 1) = k by omega]
      exact this.symm
    rw [he] at hl
    generalize x / 256 ^ (n - i) * 256 ^ (n - i) = y at *
    rw [hk] at hl
    have hd := dig32_lt y ((n - 1 - i) / 4)
    have hw : x / 256 ^ (n - 1 - i) % 256 * 2 ^ (8 * ((n - 1 - i) % 4)) % 4294967296 < 4294967296 := Nat.mod_lt _ (by omega)
    have hq : (n - 1 - i) / 4 < (n + 3) / 4 := by omega
    clear hy he hxm
    refine T_sr ?_
    refine S_val rfl rfl (Y_lss_t rfl rfl (by omega)) ?_
    refine S_nx ?_
    refine T_seq ?_
    refine T_cond_true rfl ?_
    refine T_skip ?_
    refine X_seq ?_
    refine T_seq ?_
    refine T_block ?_
    refine T_sr ?_
    refine S_mv rfl rfl rfl ?_
    refine S_val rfl rfl (Y_ixV (und rfl) (siz rfl) rfl rfl (fun _ hs => Rd.st (by assumption) hs) (nat_cast _) (by simp; omega)) ?_
    refine S_val rfl rfl (Y_loadV (und rfl) rfl rfl (fun _ hs => Rd.st (by assumption) hs) (bel_get (by assumption))) ?_
    refine S_as rfl rfl rfl ?_
    refine S_as rfl rfl rfl ?_
    refine S_nx ?_
    refine T_sr ?_
    refine S_mv rfl rfl rfl ?_
    refine S_val rfl rfl (Y_lenV rfl (und rfl) rfl (fun _ hs => Rd.st (by assumption) hs) (bel_length _ _)) ?_
    refine S_val rfl rfl (Y_subN rfl rfl (nat_cast _) (nat_lit' _) (by omega) (by omega)) ?_
    refine S_mv rfl rfl rfl ?_
    refine S_val rfl rfl (Y_subN rfl rfl (nat_cast _) (nat_cast _) (by omega) (by omega)) ?_
    refine S_as rfl rfl rfl ?_
    refine S_nx ?_
    refine T_drawP (.succ (.succ (.succ (.succ (.succ (.succ (.succ (.succ (.succ (.succ (.succ (.succ (.succ .zero))))))))))))) (by kernel_rfl) (by kernel_rfl) (by kernel_rfl) (by kernel_rfl) ?_
    refine D0_val rfl rfl rfl (Y_move rfl) ?_
    refine D0_val rfl rfl rfl (Y_move rfl) ?_
    refine D0_val rfl rfl rfl (Y_quoN rfl rfl (nat_cast _) (nat_lit' _) (Nat.succ_ne_zero _) (by first | with_reducible exact xi64 (by omega) | with_reducible exact x64 (by omega) | with_reducible exact x8 (by omega) | with_reducible exact x32 (by omega))) ?_
    refine D0_val rfl rfl rfl (Y_ixS (und rfl) (siz rfl) rfl rfl (by assumption) (nat_cast _) (by assumption)) ?_
    refine D0_valM rfl rfl rfl (Y_loadV (und rfl) rfl rfl (fun _ hs => hs.rowRd 0 rfl) (dl_get (by assumption))) ?_
    refine D0_val rfl rfl rfl (Y_move rfl) ?_
    refine D0_valM rfl rfl rfl (Y_conv (und rfl) (und rfl) rfl (wu32 (by omega) (by omega))) ?_
    refine D0_val rfl rfl rfl (Y_move rfl) ?_
    refine D0_val rfl rfl rfl (Y_remN rfl rfl (nat_cast _) (nat_lit' _) (Nat.succ_ne_zero _)) ?_
    refine D0_val rfl rfl rfl (Y_mulN rfl rfl (nat_lit' _) (nat_cast _) (by omega)) ?_
    refine D0_val rfl rfl rfl (Y_shlN rfl rfl (nat_cast _) (nat_cast _) rfl pw32) ?_
    refine D0_val rfl rfl rfl (Y_or rfl rfl (nat_cast _) (nat_cast _) rfl (by simp only [IntKind.bits]; assumption) (by simp only [IntKind.bits]; assumption)) ?_
    refine D0_val rfl rfl rfl (Y_ixS (und rfl) (siz rfl) rfl rfl (by assumption) (nat_cast _) (by assumption)) ?_
    refine D0_nilS ?_
    refine S_storeR 0 (siz rfl) rfl rfl rfl (dl_lt (by assumption)) rfl ?_
    refine S_nil ?_
    refine X_blk ?_
    refine X_seq ?_
    refine T_region ?_
    refine S_val rfl rfl (Y_addN rfl rfl (nat_cast _) (nat_lit' _) (by omega)) ?_
    refine S_mv rfl rfl rfl ?_
    refine S_nil ?_
    refine X_loop ?_
    exact ⟨i + 1, by omega, by omega, (by repeat (first | exact Env.sub_nil _ | (apply Env.sub_cons; rfl))), [], by rw [← hl]; rfl⟩
  · obtain rfl : i = n := by omega
    rw [Nat.sub_self, Nat.pow_zero, Nat.div_one, Nat.mul_one]
    refine T_sr ?_
    refine S_val rfl rfl (Y_lss_f rfl rfl (by omega)) ?_
    refine S_nx ?_
    refine T_seq ?_
    refine T_cond_false rfl ?_
    refine T_exit ?_
    refine X_seq_exit ?_
    refine X_loop_exit ?_
    refine X_blk_hit rfl ?_
    refine X_seq ?_
    refine T_sr ?_
    refine S_mv rfl rfl rfl ?_
    refine S_callV rfl rfl (bod rfl) (fun w hs => trim_any x _ hxm (by omega) vo _ (by first | exact hs.rowRd 0 rfl | exact hs.rowRd 1 rfl | exact hs.rowRd 2 rfl | exact hs.rowRd 3 rfl | exact hs.rowRd 4 rfl | exact hs.rowRd 5 rfl | exact hs.rowRd 6 rfl | exact hs.rowRd 7 rfl | exact hs.rowRd 8 rfl | exact hs.rowRd 9 rfl | exact hs.rowRd 10 rfl | exact hs.rowRd 11 rfl | exact hs.rowRd 12 rfl | exact hs.rowRd 13 rfl | exact Rd.st (by assumption) hs)) rfl rfl ?_
    refine S_conv 0 rfl (fun _ hr => hr.trim htr) ?_
    refine S_as rfl rfl rfl ?_
    refine S_nx ?_
    refine T_ret ?_
    ((first | refine X_fin_ret ?_ | refine X_fin ?_); exact ⟨[_], [_], .cons (.tmp rfl) .nil, Emb.one 0 rfl, rfl⟩)
theorem mbytes_any (x m n : Nat) (hx : x < 4294967296 ^ m) (hm : m ≤ 1000000) (hn : n ≤ 1000000) (v : Value) (w : World) (hr : Rd w v .u32 (dl 4294967296 m x)) : Fn Tryd.prog 42 #[v, .int .i64 n] w fun u N => N = [row .u8 (bel n x) u] := by
  refine Fn_of (args := [v, .int .i64 n]) Tryd.func42 rfl Tryd.ntmps42 Tryd.results42 (by simp) ?_
  refine T_sr ?_
  refine S_as rfl rfl rfl ?_
  refine S_nx ?_
  refine T_sr ?_
  refine S_mv rfl rfl rfl ?_
  refine S_makeR (und rfl) (siz rfl) (byt rfl) (zer rfl) rfl rfl (nat_cast _) (by omega) rfl rfl rfl fun _ => ?_
  refine S_as rfl rfl rfl ?_
  refine S_nx ?_
  refine T_seq ?_
  refine T_sr ?_
  refine S_mv rfl rfl rfl ?_
  refine S_val rfl rfl (Y_lenV rfl (und rfl) rfl (fun _ hs => Rd.st (by assumption) hs) (dl_length _ _ _)) ?_
  refine S_mv rfl rfl rfl ?_
  refine S_nx ?_
  refine T_block ?_
  rename_i vo
  refine T_loop (α := Nat) (fun i => i ≤ m)
    (fun i => [(0, v), (1, .int .i64 n), (5, vo), (12, v), (13, .int .i64 m), (14, .int .i64 i)])
    (fun i => [row .u8 (bel n (x % 256 ^ (4 * i))) vo])
    (fun i => m - i) 0 (by omega) (by repeat (first | exact Env.sub_nil _ | (apply Env.sub_cons; rfl))) [] (by rw [Nat.mul_zero, Nat.pow_zero, Nat.mod_one, bel_zero]; rfl) ?_
  intro i hi
  by_cases h : i < m
  · have hd := dig32_lt x i
    refine T_sr ?_
    refine S_val rfl rfl (Y_lss_t rfl rfl (by omega)) ?_
    refine S_nx ?_
    refine T_seq ?_
    refine T_cond_true rfl ?_
    refine T_skip ?_
    refine X_seq ?_
    refine T_seq ?_
    refine T_block ?_
    refine T_sr ?_
    refine S_mv rfl rfl rfl ?_
    refine S_val rfl rfl (Y_ixV (und rfl) (siz rfl) rfl rfl (fun _ hs => Rd.st (by assumption) hs) (nat_cast _) (dl_lt (by assumption))) ?_
    refine S_val rfl rfl (Y_loadV (und rfl) rfl rfl (fun _ hs => Rd.st (by assumption) hs) (dl_get (by assumption))) ?_
    refine S_as rfl rfl rfl ?_
    refine S_as rfl rfl rfl ?_
    refine S_nx ?_
    refine T_sr ?_
    refine S_mv rfl rfl rfl ?_
    refine S_nx ?_
    refine T_block ?_
    refine T_loop (α := Nat) (fun k => k ≤ 4)
      (fun k => [(0, v), (1, .int .i64 n), (5, vo), (6, .int .i64 i), (7, .int .u32 ((x / 4294967296 ^ i % 4294967296 : Nat) : Int)), (12, v), (13, .int .i64 m), (14, .int .i64 i), (19, .int .i64 k)])
      (fun k => [row .u8 (bel n (x % 256 ^ (4 * i + k))) vo])
      (fun k => 4 - k) 0 (by omega) (by repeat (first | exact Env.sub_nil _ | (apply Env.sub_cons; rfl))) [] rfl ?_
    intro k hk
    by_cases h2 : k < 4
    · by_cases h3 : 4 * i + k < n
      · have hb := byte32 x i k h2
        have hs : (bel n (x % 256 ^ (4 * i + k))).set (n - 1 - (4 * i + k)) ((x / 256 ^ (4 * i + k) % 256 : Nat) : Int) = bel n (x % 256 ^ (4 * i + (k + 1))) := by
          rw [bel_set (Nat.mod_lt _ (Nat.pow_pos (by omega))) (Nat.mod_lt _ (by omega)) h3, ← mod_pow_succ']
          rfl
        rw [show n - 1 - (4 * i + k) = n - 1 - 4 * i - k by omega, ← hb] at hs
        generalize x % 256 ^ (4 * i + k) = y at *
        clear hb hx
        generalize x / 4294967296 ^ i % 4294967296 = d at *
        refine T_sr ?_
        refine S_val rfl rfl (Y_lss_t rfl rfl (by omega)) ?_
        refine S_nx ?_
        refine T_seq ?_
        refine T_cond_true rfl ?_
        refine T_skip ?_
        refine X_seq ?_
        refine T_seq ?_
        refine T_block ?_
        refine T_sr ?_
        refine S_mv rfl rfl rfl ?_
        refine S_as rfl rfl rfl ?_
        refine S_nx ?_
        refine T_sr ?_
        refine S_mv rfl rfl rfl ?_
        refine S_val rfl rfl (Y_subN rfl rfl (nat_cast _) (nat_lit' _) (by omega) (by omega)) ?_
        refine S_mv rfl rfl rfl ?_
        refine S_val rfl rfl (Y_mulN rfl rfl (nat_lit' _) (nat_cast _) (by omega)) ?_
        refine S_val rfl rfl (Y_subN rfl rfl (nat_cast _) (nat_cast _) (by omega) (by omega)) ?_
        refine S_mv rfl rfl rfl ?_
        refine S_val rfl rfl (Y_subN rfl rfl (nat_cast _) (nat_cast _) (by omega) (by omega)) ?_
        refine S_as rfl rfl rfl ?_
        refine S_nx ?_
        refine T_sr ?_
        refine S_mv rfl rfl rfl ?_
        refine S_val rfl rfl (Y_geq_t rfl rfl (by omega)) ?_
        refine S_nx ?_
        refine T_cond_true rfl ?_
        refine T_region ?_
        refine S_mv rfl rfl rfl ?_
        refine S_mv rfl rfl rfl ?_
        refine S_mv rfl rfl rfl ?_
        refine S_mv rfl rfl rfl ?_
        refine S_val rfl rfl (Y_mulN rfl rfl (nat_lit' _) (nat_cast _) (by omega)) ?_
        refine S_val rfl rfl (Y_shrN rfl rfl (nat_cast _) (nat_cast _) (by simp only [IntKind.bits]; assumption)) ?_
        refine S_val rfl rfl (Y_conv (und rfl) (und rfl) rfl wu8n) ?_
        refine S_val rfl rfl (Y_ixV (und rfl) (siz rfl) rfl rfl (fun _ hs => hs.rowRd 0 rfl) (nat_cast _) (by simp; omega)) ?_
        refine S_storeR 0 (siz rfl) rfl rfl rfl (by simp; omega) rfl ?_
        refine S_nil ?_
        refine X_blk ?_
        refine X_seq ?_
        refine T_region ?_
        refine S_val rfl rfl (Y_addN rfl rfl (nat_cast _) (nat_lit' _) (by omega)) ?_
        refine S_mv rfl rfl rfl ?_
        refine S_nil ?_
        refine X_loop ?_
        exact ⟨k + 1, by omega, by omega, (by repeat (first | exact Env.sub_nil _ | (apply Env.sub_cons; rfl))), [], by rw [← hs]; rfl⟩
      · have hs : bel n (x % 256 ^ (4 * i + k)) = bel n (x % 256 ^ (4 * i + (k + 1))) := by
          rw [← bel_mod n (x % 256 ^ (4 * i + k)), ← bel_mod n (x % 256 ^ (4 * i + (k + 1))), Nat.mod_mod_of_dvd _ (Nat.pow_dvd_pow 256 (by omega)), Nat.mod_mod_of_dvd _ (Nat.pow_dvd_pow 256 (by omega))]
        generalize x / 4294967296 ^ i % 4294967296 = d at *
        rw [hs]
        refine T_sr ?_
        refine S_val rfl rfl (Y_lss_t rfl rfl (by omega)) ?_
        refine S_nx ?_
        refine T_seq ?_
        refine T_cond_true rfl ?_
        refine T_skip ?_
        refine X_seq ?_
        refine T_seq ?_
        refine T_block ?_
        refine T_sr ?_
        refine S_mv rfl rfl rfl ?_
        refine S_as rfl rfl rfl ?_
        refine S_nx ?_
        refine T_sr ?_
        refine S_mv rfl rfl rfl ?_
        refine S_val rfl rfl (Y_sub rfl rfl (wi64 (by omega) (by omega))) ?_
        refine S_mv rfl rfl rfl ?_
        refine S_val rfl rfl (Y_mulN rfl rfl (nat_lit' _) (nat_cast _) (by omega)) ?_
        refine S_val rfl rfl (Y_sub rfl rfl (wi64 (by omega) (by omega))) ?_
        refine S_mv rfl rfl rfl ?_
        refine S_val rfl rfl (Y_sub rfl rfl (wi64 (by omega) (by omega))) ?_
        refine S_as rfl rfl rfl ?_
        refine S_nx ?_
        refine T_sr ?_
        refine S_mv rfl rfl rfl ?_
        refine S_val rfl rfl (Y_geq_f rfl rfl (by omega)) ?_
        refine S_nx ?_
        refine T_cond_false rfl ?_
        refine T_skip ?_
        refine X_blk ?_
        refine X_seq ?_
        refine T_region ?_
        refine S_val rfl rfl (Y_addN rfl rfl (nat_cast _) (nat_lit' _) (by omega)) ?_
        refine S_mv rfl rfl rfl ?_
        refine S_nil ?_
        refine X_loop ?_
        exact ⟨k + 1, by omega, by omega, (by repeat (first | exact Env.sub_nil _ | (apply Env.sub_cons; rfl))), [], rfl⟩
    · obtain rfl : k = 4 := by omega
      refine T_sr ?_
      refine S_val rfl rfl (Y_lss_f rfl rfl (by decide)) ?_
      refine S_nx ?_
      refine T_seq ?_
      refine T_cond_false rfl ?_
      refine T_exit ?_
      refine X_seq_exit ?_
      refine X_loop_exit ?_
      refine X_blk_hit rfl ?_
      refine X_blk ?_
      refine X_seq ?_
      refine T_region ?_
      refine S_val rfl rfl (Y_addN rfl rfl (nat_cast _) (nat_lit' _) (by omega)) ?_
      refine S_mv rfl rfl rfl ?_
      refine S_nil ?_
      refine X_loop ?_
      exact ⟨i + 1, by omega, by omega, (by repeat (first | exact Env.sub_nil _ | (apply Env.sub_cons; rfl))), [], by rw [Nat.mul_add]; rfl⟩
  · obtain rfl : i = m := by omega
    rw [show x % 256 ^ (4 * i) = x by rw [Nat.pow_mul]; exact Nat.mod_eq_of_lt hx]
    refine T_sr ?_
    refine S_val rfl rfl (Y_lss_f rfl rfl (by omega)) ?_
    refine S_nx ?_
    refine T_seq ?_
    refine T_cond_false rfl ?_
    refine T_exit ?_
    refine X_seq_exit ?_
    refine X_loop_exit ?_
    refine X_blk_hit rfl ?_
    refine X_seq ?_
    refine T_sr ?_
    refine S_mv rfl rfl rfl ?_
    refine S_as rfl rfl rfl ?_
    refine S_nx ?_
    refine T_ret ?_
    ((first | refine X_fin_ret ?_ | refine X_fin ?_); exact ⟨[_], [_], .cons (.tmp rfl) .nil, Emb.one 0 rfl, rfl⟩)
end Go.Proofs.YtjolmphkmfbpbaaDoor
/- The reference's quotients. -/
namespace Go.Proofs.YtjolmphkmfbpbaaDoor
open Go.RowKit
set_option maxRecDepth 10000
set_option maxHeartbeats 4000000
theorem Rd.high {w : World} {v : Value} {n x : Nat} (hr : Rd w v .i64 (dl 256 n x)) (hn : 32 ≤ n) : Rd w (vDrop 32 v) .i64 (dl 256 (n - 32) (x / 256 ^ 32)) := by
  have := hr.dropV (j := 32) (by rwa [dl_length])
  rwa [dl_drop] at this
theorem div_step {x y i r : Nat} (hy : 0 < y) (hr : r = x / 256 ^ (i + 1) % y) : x / 256 ^ i / y = x / 256 ^ (i + 1) / y * 256 + (x / 256 ^ i % 256 + 256 * r) / y ∧ x / 256 ^ i % y = (x / 256 ^ i % 256 + 256 * r) % y := by
  have e : x / 256 ^ i = (x / 256 ^ i % 256 + 256 * r) + (x / 256 ^ (i + 1) / y * 256) * y := by
    have h1 : x / 256 ^ (i + 1) = x / 256 ^ i / 256 := by rw [Nat.pow_succ, Nat.div_div_eq_div_mul]
    have h2 := Nat.div_add_mod (x / 256 ^ (i + 1)) y
    rw [← hr, h1] at h2
    rw [h1]
    have h3 : x / 256 ^ i / 256 / y * 256 * y = 256 * (y * (x / 256 ^ i / 256 / y)) := by rw [Nat.mul_right_comm, Nat.mul_comm (x / 256 ^ i / 256 / y) y, Nat.mul_comm 256]
    rw [h3]
    omega
  constructor
  · conv => lhs; rw [e]
    rw [Nat.add_mul_div_right _ _ hy, Nat.add_comm]
  · conv => lhs; rw [e]
    rw [Nat.add_mul_mod_self_right]
theorem ndiv_any (x y n m : Nat) (hx : x < 256 ^ n) (hy : y < 256 ^ m) (hn : n ≤ 1000000) (hm : m ≤ 100000) (v u : Value) (w : World) (hv : Rd w v .i64 (dl 256 n x)) (hu : Rd w u .i64 (dl 256 m y)) :
    Fn Tryd.prog 48 #[v, u] w fun z N => ∃ j r v1 v2, r = (if y = 0 then 0 else x % y) ∧ r < 256 ^ j ∧ j ≤ m ∧ z = .tuple #[v1, v2] ∧ N = [row .i64 (dl 256 n (x / y)) v1, row .i64 (dl 256 j r) v2] := by
  by_cases h0 : y = 0
  · subst h0
    refine Fn_of (args := [v, u]) Tryd.func48 rfl Tryd.ntmps48 Tryd.results48 (by simp) ?_
    refine T_sr ?_
    refine S_as rfl rfl rfl ?_
    refine S_as rfl rfl rfl ?_
    refine S_nx ?_
    refine T_sr ?_
    refine S_mv rfl rfl rfl ?_
    refine S_val rfl rfl (Y_lenV rfl (und rfl) rfl (fun _ hs => Rd.st (by assumption) hs) (dl_length _ _ _)) ?_
    refine S_makeR (und rfl) (siz rfl) (byt rfl) (zer rfl) rfl rfl (nat_cast _) (by omega) rfl rfl rfl fun _ => ?_
    refine S_as rfl rfl rfl ?_
    refine S_nx ?_
    refine T_sr ?_
    refine S_sliceR (und rfl) (siz rfl) (zer rfl) rfl rfl rfl rfl fun _ => ?_
    refine S_as rfl rfl rfl ?_
    refine S_nx ?_
    refine T_seq ?_
    refine T_sr ?_
    refine S_mv rfl rfl rfl ?_
    refine S_callV rfl rfl (bod rfl) (fun w hs => nzero_any 0 m hy (by omega) u _ (by first | exact hs.rowRd 0 rfl | exact hs.rowRd 1 rfl | exact hs.rowRd 2 rfl | exact hs.rowRd 3 rfl | exact hs.rowRd 4 rfl | exact hs.rowRd 5 rfl | exact hs.rowRd 6 rfl | exact hs.rowRd 7 rfl | exact hs.rowRd 8 rfl | exact hs.rowRd 9 rfl | exact hs.rowRd 10 rfl | exact hs.rowRd 11 rfl | exact hs.rowRd 12 rfl | exact hs.rowRd 13 rfl | exact Rd.st (by assumption) hs)) rfl rfl ?_
    refine S_nx ?_
    refine T_cond_true rfl ?_
    refine T_sr ?_
    refine S_mv rfl rfl rfl ?_
    refine S_mv rfl rfl rfl ?_
    refine S_as rfl rfl rfl ?_
    refine S_as rfl rfl rfl ?_
    refine S_nx ?_
    refine T_ret ?_
    refine X_seq_ret ?_
    ((first | refine X_fin_ret ?_ | refine X_fin ?_); exact ⟨[_, _], [_, _], .cons (.tmp rfl) (.cons (.tmp rfl) .nil), Emb.two 0 1 rfl rfl rfl, ⟨0, 0, _, _, rfl, by omega, by omega, rfl, by rw [Nat.div_zero, dl_zero]; rfl⟩⟩)
  · have hy0 : 0 < y := by omega
    have hz : ∀ w, Rd w u .i64 (dl 256 m y) → Fn Tryd.prog 47 #[u] w fun r N => r = .bool false ∧ N = [] := fun w h => by
      have := nzero_any y m hy (by omega) u w h
      rwa [decide_eq_false h0] at this
    refine Fn_of (args := [v, u]) Tryd.func48 rfl Tryd.ntmps48 Tryd.results48 (by simp) ?_
    refine T_sr ?_
    refine S_as rfl rfl rfl ?_
    refine S_as rfl rfl rfl ?_
    refine S_nx ?_
    refine T_sr ?_
    refine S_mv rfl rfl rfl ?_
    refine S_val rfl rfl (Y_lenV rfl (und rfl) rfl (fun _ hs => Rd.st (by assumption) hs) (dl_length _ _ _)) ?_
    refine S_makeR (und rfl) (siz rfl) (byt rfl) (zer rfl) rfl rfl (nat_cast _) (by omega) rfl rfl rfl fun _ => ?_
    refine S_as rfl rfl rfl ?_
    refine S_nx ?_
    refine T_sr ?_
    refine S_sliceR (und rfl) (siz rfl) (zer rfl) rfl rfl rfl rfl fun _ => ?_
    refine S_as rfl rfl rfl ?_
    refine S_nx ?_
    refine T_seq ?_
    refine T_sr ?_
    refine S_mv rfl rfl rfl ?_
    refine S_callV rfl rfl (bod rfl) (fun w hs => hz _ (by first | exact hs.rowRd 0 rfl | exact hs.rowRd 1 rfl | exact hs.rowRd 2 rfl | exact hs.rowRd 3 rfl | exact hs.rowRd 4 rfl | exact hs.rowRd 5 rfl | exact hs.rowRd 6 rfl | exact hs.rowRd 7 rfl | exact hs.rowRd 8 rfl | exact hs.rowRd 9 rfl | exact hs.rowRd 10 rfl | exact hs.rowRd 11 rfl | exact hs.rowRd 12 rfl | exact hs.rowRd 13 rfl | exact Rd.st (by assumption) hs)) rfl rfl ?_
    refine S_nx ?_
    refine T_cond_false rfl ?_
    refine T_skip ?_
    refine X_seq ?_
    refine T_seq ?_
    refine T_sr ?_
    refine S_mv rfl rfl rfl ?_
    refine S_val rfl rfl (Y_lenV rfl (und rfl) rfl (fun _ hs => Rd.st (by assumption) hs) (dl_length _ _ _)) ?_
    refine S_val rfl rfl (Y_sub rfl rfl (wi64 (by omega) (by omega))) ?_
    refine S_as rfl rfl rfl ?_
    refine S_nx ?_
    refine T_block ?_
    rename_i vq vl0
    refine T_loopE (α := Nat × Nat × Value) (fun a => a.1 ≤ n ∧ a.2.1 ≤ m ∧ x / 256 ^ a.1 % y < 256 ^ a.2.1)
      (fun a => [(0, v), (1, u), (6, vq), (7, a.2.2), (8, .int .i64 ((a.1 : Int) - 1))])
      (fun a => [row .i64 (dl 256 n (x / 256 ^ a.1 / y * 256 ^ a.1)) vq, row .i64 (dl 256 a.2.1 (x / 256 ^ a.1 % y)) a.2.2])
      (fun a => a.1) (n, 0, vl0) ⟨Nat.le_refl _, by dsimp only; omega, by dsimp only; rw [Nat.div_eq_of_lt hx, Nat.zero_mod]; omega⟩ (by repeat (first | exact Env.sub_nil _ | (apply Env.sub_cons; rfl)))
      (by dsimp only; rw [Nat.div_eq_of_lt hx, Nat.zero_div, Nat.zero_mul, dl_zero]; exact Emb.two 0 1 rfl rfl rfl) ?_
    rintro ⟨j, t, vl⟩ ⟨hj, ht, hr⟩
    dsimp only at hj ht hr ⊢
    by_cases h : j = 0
    · subst h
      refine T_seq ?_
      refine T_sr ?_
      refine S_mv rfl rfl rfl ?_
      refine S_val rfl rfl (Y_geq_f rfl rfl (by decide)) ?_
      refine S_nx ?_
      refine T_cond_false rfl ?_
      refine T_exit ?_
      refine X_seq_exit ?_
      refine X_loop_exit ?_
      refine X_blk_hit rfl ?_
      refine X_seq ?_
      refine T_sr ?_
      refine S_mv rfl rfl rfl ?_
      refine S_mv rfl rfl rfl ?_
      refine S_as rfl rfl rfl ?_
      refine S_as rfl rfl rfl ?_
      refine S_nx ?_
      refine T_ret ?_
      ((first | refine X_fin_ret ?_ | refine X_fin ?_); exact ⟨[_, _], [_, _], .cons (.tmp rfl) (.cons (.tmp rfl) .nil), Emb.two 0 1 rfl rfl rfl, ⟨t, x / 256 ^ 0 % y, _, _, by rw [if_neg h0, Nat.pow_zero, Nat.div_one], hr, ht, rfl, by rw [Nat.pow_zero, Nat.div_one, Nat.mul_one]⟩⟩)
    · obtain ⟨i, rfl⟩ : ∃ i, j = i + 1 := ⟨j - 1, by omega⟩
      rw [show (((i + 1 : Nat) : Int) - 1) = (i : Int) by omega]
      obtain ⟨r, hr0⟩ : ∃ r, r = x / 256 ^ (i + 1) % y := ⟨_, rfl⟩
      obtain ⟨hq1, hq2⟩ := div_step hy0 hr0
      have hry : r < y := by rw [hr0]; exact Nat.mod_lt _ hy0
      rw [← hr0] at hr ⊢
      generalize hQ : x / 256 ^ (i + 1) / y = Q at *
      have hd := dig256_lt x i
      obtain ⟨R, hR⟩ : ∃ R, R = x / 256 ^ i % 256 + 256 * r := ⟨_, rfl⟩
      have hRt : R < 256 ^ (t + 1) := by rw [hR, Nat.pow_succ]; omega
      have hRl : dl 256 (t + 1) R = ((x / 256 ^ i % 256 : Nat) : Int) :: dl 256 t r := by rw [hR]; exact dl_cons hd
      have hRy : R < 256 * y := by rw [hR]; omega
      refine T_seq ?_
      refine T_sr ?_
      refine S_mv rfl rfl rfl ?_
      refine S_val rfl rfl (Y_geq_t rfl rfl (by omega)) ?_
      refine S_nx ?_
      refine T_cond_true rfl ?_
      refine T_skip ?_
      refine X_seq ?_
      refine T_seq ?_
      refine T_block ?_
      refine T_sr ?_
      refine S_mv rfl rfl rfl ?_
      refine S_mv rfl rfl rfl ?_
      refine S_val rfl rfl (Y_ixV (und rfl) (siz rfl) rfl rfl (fun _ hs => Rd.st (by assumption) hs) (nat_cast _) (dl_lt (by assumption))) ?_
      refine S_val rfl rfl (Y_loadV (und rfl) rfl rfl (fun _ hs => Rd.st (by assumption) hs) (dl_get (by assumption))) ?_
      refine S_sliceR (und rfl) (siz rfl) (zer rfl) rfl rfl rfl rfl fun _ => ?_
      refine S_as rfl rfl rfl ?_
      refine S_nx ?_
      refine T_sr ?_
      refine S_mv rfl rfl rfl ?_
      refine S_mv rfl rfl rfl ?_
      refine S_append 2 rfl (und rfl) (und rfl) (siz rfl) (byt rfl) (zer rfl) rfl rfl rfl (fun _ hs => hs.rowRd 1 rfl) (by simp; omega) rfl rfl rfl fun _ => ?_
      refine S_as rfl rfl rfl ?_
      refine S_nx ?_
      refine T_sr ?_
      refine S_mv rfl rfl rfl ?_
      refine S_as rfl rfl rfl ?_
      refine S_nx ?_
      refine T_seq ?_
      refine T_block ?_
      refine T_loopE (α := Nat × Nat × Value) (fun a => a.2.1 + a.1 * y = R)
        (fun a => [(0, v), (1, u), (6, vq), (7, a.2.2), (8, .int .i64 i)])
        (fun a => [row .i64 (dl 256 n (Q * 256 ^ (i + 1) + a.1 * 256 ^ i)) vq, row .i64 (dl 256 (t + 1) a.2.1) a.2.2])
        (fun a => a.2.1) (0, R, _) (by simp) (by repeat (first | exact Env.sub_nil _ | (apply Env.sub_cons; rfl))) (by dsimp only; rw [Nat.zero_mul, Nat.add_zero, hRl]; exact Emb.two 0 2 rfl rfl rfl) ?_
      rintro ⟨c, s, v2⟩ hs
      dsimp only at hs ⊢
      have hc : c < 256 := by
        rcases Nat.lt_or_ge c 256 with h | h
        · exact h
        · have : 256 * y ≤ c * y := Nat.mul_le_mul_right _ h
          omega
      have hP : 0 < 256 ^ i := Nat.pow_pos (by omega)
      have hst : s < 256 ^ (t + 1) := by omega
      have hdig : (Q * 256 ^ (i + 1) + c * 256 ^ i) / 256 ^ i % 256 = c := by
        have := digit_rep (b := 256) (r := 0) (d := c) (h := Q) (i := i) (j := i) (by omega) hP hc
        rw [if_neg (by omega), if_pos rfl] at this
        rwa [Nat.zero_add, Nat.add_comm] at this
      by_cases hlt : s < y
      · have hl : ∀ w, Rd w v2 .i64 (dl 256 (t + 1) s) → Rd w u .i64 (dl 256 m y) → Fn Tryd.prog 49 #[v2, u] w fun r N => r = .bool true ∧ N = [] := fun w h h' => by
          have := nless_any s y (t + 1) m hst hy (by omega) (by omega) v2 u w h h'
          rwa [decide_eq_true hlt] at this
        have hcq : R / y = c ∧ R % y = s := by
          rw [← hs, Nat.add_mul_div_right _ _ hy0, Nat.add_mul_mod_self_right, Nat.div_eq_of_lt hlt, Nat.mod_eq_of_lt hlt]
          omega
        rw [← hR] at hq1 hq2
        rw [hcq.1] at hq1
        rw [hcq.2] at hq2
        refine T_seq ?_
        refine T_sr ?_
        refine S_mv rfl rfl rfl ?_
        refine S_mv rfl rfl rfl ?_
        refine S_callV rfl rfl (bod rfl) (fun w hs => hl _ (by first | exact hs.rowRd 0 rfl | exact hs.rowRd 1 rfl | exact hs.rowRd 2 rfl | exact hs.rowRd 3 rfl | exact hs.rowRd 4 rfl | exact hs.rowRd 5 rfl | exact hs.rowRd 6 rfl | exact hs.rowRd 7 rfl | exact hs.rowRd 8 rfl | exact hs.rowRd 9 rfl | exact hs.rowRd 10 rfl | exact hs.rowRd 11 rfl | exact hs.rowRd 12 rfl | exact hs.rowRd 13 rfl | exact Rd.st (by assumption) hs) (by first | exact hs.rowRd 0 rfl | exact hs.rowRd 1 rfl | exact hs.rowRd 2 rfl | exact hs.rowRd 3 rfl | exact hs.rowRd 4 rfl | exact hs.rowRd 5 rfl | exact hs.rowRd 6 rfl | exact hs.rowRd 7 rfl | exact hs.rowRd 8 rfl | exact hs.rowRd 9 rfl | exact hs.rowRd 10 rfl | exact hs.rowRd 11 rfl | exact hs.rowRd 12 rfl | exact hs.rowRd 13 rfl | exact Rd.st (by assumption) hs)) rfl rfl ?_
        refine S_val rfl rfl (Y_not rfl rfl) ?_
        refine S_nx ?_
        refine T_cond_false rfl ?_
        refine T_exit ?_
        refine X_seq_exit ?_
        refine X_loop_exit ?_
        refine X_blk_hit rfl ?_
        refine X_seq ?_
        refine T_block ?_
        refine T_loopE (α := Nat × Value) (fun a => a.1 ≤ t + 1 ∧ s < 256 ^ a.1)
          (fun a => [(0, v), (1, u), (6, vq), (7, a.2), (8, .int .i64 i)])
          (fun a => [row .i64 (dl 256 n (Q * 256 ^ (i + 1) + c * 256 ^ i)) vq, row .i64 (dl 256 a.1 s) a.2])
          (fun a => a.1) (t + 1, v2) ⟨Nat.le_refl _, hst⟩ (by repeat (first | exact Env.sub_nil _ | (apply Env.sub_cons; rfl))) (Emb.refl _) ?_
        rintro ⟨e, v3⟩ ⟨he, hse⟩
        dsimp only at he hse ⊢
        have hfin : x / 256 ^ i / y * 256 ^ i = Q * 256 ^ (i + 1) + c * 256 ^ i := by
          rw [hq1, Nat.add_mul, Nat.pow_succ, Nat.mul_assoc Q, Nat.mul_comm 256]
        by_cases h1 : e = 0
        · subst h1
          refine T_seq ?_
          refine T_sr ?_
          refine S_mv rfl rfl rfl ?_
          refine S_val rfl rfl (Y_lenV rfl (und rfl) rfl (fun _ hs => hs.rowRd 1 rfl) (dl_length _ _ _)) ?_
          refine S_val rfl rfl (Y_gtr_f rfl rfl (by decide)) ?_
          refine S_mv rfl rfl rfl ?_
          refine S_skip rfl rfl ?_
          refine S_skip rfl rfl ?_
          refine S_skip rfl rfl ?_
          refine S_skip rfl rfl ?_
          refine S_skip rfl rfl ?_
          refine S_skip rfl rfl ?_
          refine S_skip rfl rfl ?_
          refine S_val rfl rfl (Y_pick_f rfl rfl) ?_
          refine S_nx ?_
          refine T_cond_false rfl ?_
          refine T_exit ?_
          refine X_seq_exit ?_
          refine X_loop_exit ?_
          refine X_blk_hit rfl ?_
          refine X_blk ?_
          refine X_seq ?_
          refine T_region ?_
          refine S_mv rfl rfl rfl ?_
          refine S_val rfl rfl (Y_sub rfl rfl (wi64 (by omega) (by omega))) ?_
          refine S_as rfl rfl rfl ?_
          refine S_nil ?_
          refine X_loop ?_
          refine ⟨(i, 0, _), ⟨by dsimp only; omega, by dsimp only; omega, by dsimp only; omega⟩, by dsimp only; omega, (by repeat (first | exact Env.sub_nil _ | (apply Env.sub_cons; rfl))), ?_⟩
          dsimp only
          rw [hfin, hq2]
          exact Emb.refl _
        · obtain ⟨f, rfl⟩ : ∃ f, e = f + 1 := ⟨e - 1, by omega⟩
          by_cases h2 : s / 256 ^ f % 256 = 0
          · have h2' : ((s / 256 ^ (f + 1 - 1) % 256 : Nat) : Int) = 0 := by rw [Nat.add_sub_cancel, h2]; rfl
            refine T_seq ?_
            refine T_sr ?_
            refine S_mv rfl rfl rfl ?_
            refine S_val rfl rfl (Y_lenV rfl (und rfl) rfl (fun _ hs => hs.rowRd 1 rfl) (dl_length _ _ _)) ?_
            refine S_val rfl rfl (Y_gtr_t rfl rfl (by omega)) ?_
            refine S_mv rfl rfl rfl ?_
            refine S_mv rfl rfl rfl ?_
            refine S_mv rfl rfl rfl ?_
            refine S_val rfl rfl (Y_lenV rfl (und rfl) rfl (fun _ hs => hs.rowRd 1 rfl) (dl_length _ _ _)) ?_
            refine S_val rfl rfl (Y_subN rfl rfl (nat_cast _) (nat_lit' _) (Nat.le_of_ble_eq_true rfl) (by omega)) ?_
            refine S_val rfl rfl (Y_ixV (und rfl) (siz rfl) rfl rfl (fun _ hs => hs.rowRd 1 rfl) (nat_cast _) (dl_lt (by omega))) ?_
            refine S_val rfl rfl (Y_loadV (und rfl) rfl rfl (fun _ hs => hs.rowRd 1 rfl) (dl_get (by omega))) ?_
            refine S_val rfl rfl (Y_eql_t rfl rfl (by assumption)) ?_
            refine S_val rfl rfl (Y_pick_t rfl rfl) ?_
            refine S_nx ?_
            refine T_cond_true rfl ?_
            refine T_skip ?_
            refine X_seq ?_
            refine T_block ?_
            refine T_region ?_
            refine S_mv rfl rfl rfl ?_
            refine S_mv rfl rfl rfl ?_
            refine S_val rfl rfl (Y_lenV rfl (und rfl) rfl (fun _ hs => hs.rowRd 1 rfl) (dl_length _ _ _)) ?_
            refine S_val rfl rfl (Y_subN rfl rfl (nat_cast _) (nat_lit' _) (Nat.le_of_ble_eq_true rfl) (by omega)) ?_
            refine S_cutR 1 (und rfl) (siz rfl) rfl rfl rfl (nat_cast _) (dl_le (by omega)) rfl rfl ?_
            refine S_as rfl rfl rfl ?_
            refine S_nil ?_
            refine X_blk ?_
            refine X_loop ?_
            refine ⟨(f, _), ⟨by dsimp only; omega, ?_⟩, by dsimp only; omega, (by repeat (first | exact Env.sub_nil _ | (apply Env.sub_cons; rfl))), ?_⟩
            · dsimp only
              have e1 : s / 256 ^ f = 0 := by
                have h3 : s / 256 ^ f < 256 := Nat.div_lt_of_lt_mul (by rw [Nat.pow_succ] at hse; exact hse)
                rwa [Nat.mod_eq_of_lt h3] at h2
              rcases Nat.lt_or_ge s (256 ^ f) with h | h
              · exact h
              · have := Nat.div_pos h (Nat.pow_pos (by omega)); omega
            · dsimp only
              rw [← dl_take 256 (f + 1) s f (by omega)]
              exact Emb.refl _
          · have h2' : ¬ ((s / 256 ^ (f + 1 - 1) % 256 : Nat) : Int) = 0 := by rw [Nat.add_sub_cancel]; omega
            refine T_seq ?_
            refine T_sr ?_
            refine S_mv rfl rfl rfl ?_
            refine S_val rfl rfl (Y_lenV rfl (und rfl) rfl (fun _ hs => hs.rowRd 1 rfl) (dl_length _ _ _)) ?_
            refine S_val rfl rfl (Y_gtr_t rfl rfl (by omega)) ?_
            refine S_mv rfl rfl rfl ?_
            refine S_mv rfl rfl rfl ?_
            refine S_mv rfl rfl rfl ?_
            refine S_val rfl rfl (Y_lenV rfl (und rfl) rfl (fun _ hs => hs.rowRd 1 rfl) (dl_length _ _ _)) ?_
            refine S_val rfl rfl (Y_subN rfl rfl (nat_cast _) (nat_lit' _) (Nat.le_of_ble_eq_true rfl) (by omega)) ?_
            refine S_val rfl rfl (Y_ixV (und rfl) (siz rfl) rfl rfl (fun _ hs => hs.rowRd 1 rfl) (nat_cast _) (dl_lt (by omega))) ?_
            refine S_val rfl rfl (Y_loadV (und rfl) rfl rfl (fun _ hs => hs.rowRd 1 rfl) (dl_get (by omega))) ?_
            refine S_val rfl rfl (Y_eql_f rfl rfl (by assumption)) ?_
            refine S_val rfl rfl (Y_pick_t rfl rfl) ?_
            refine S_nx ?_
            refine T_cond_false rfl ?_
            refine T_exit ?_
            refine X_seq_exit ?_
            refine X_loop_exit ?_
            refine X_blk_hit rfl ?_
            refine X_blk ?_
            refine X_seq ?_
            refine T_region ?_
            refine S_mv rfl rfl rfl ?_
            refine S_val rfl rfl (Y_sub rfl rfl (wi64 (by omega) (by omega))) ?_
            refine S_as rfl rfl rfl ?_
            refine S_nil ?_
            refine X_loop ?_
            refine ⟨(i, f + 1, _), ⟨by dsimp only; omega, ?_, by dsimp only; omega⟩, by dsimp only; omega, (by repeat (first | exact Env.sub_nil _ | (apply Env.sub_cons; rfl))), ?_⟩
            · dsimp only
              have e1 : 256 ^ f ≤ s := by
                rcases Nat.lt_or_ge s (256 ^ f) with h | h
                · rw [Nat.div_eq_of_lt h] at h2; simp at h2
                · exact h
              have := (Nat.pow_lt_pow_iff_right (by omega : 1 < 256)).1 (Nat.lt_of_le_of_lt e1 (Nat.lt_trans hlt hy))
              omega
            · dsimp only
              rw [hfin, hq2]
              exact Emb.refl _
      · obtain ⟨z, rfl⟩ : ∃ z, s = z + y := ⟨s - y, by omega⟩
        have hl : ∀ w, Rd w v2 .i64 (dl 256 (t + 1) (z + y)) → Rd w u .i64 (dl 256 m y) → Fn Tryd.prog 49 #[v2, u] w fun r N => r = .bool false ∧ N = [] := fun w h h' => by
          have := nless_any (z + y) y (t + 1) m hst hy (by omega) (by omega) v2 u w h h'
          rwa [decide_eq_false hlt] at this
        have hs' : z + (c + 1) * y = R := by rw [← hs, Nat.add_mul, Nat.one_mul]; omega
        have hc' : c + 1 < 256 := by
          rcases Nat.lt_or_ge (c + 1) 256 with h | h
          · exact h
          · have : 256 * y ≤ (c + 1) * y := Nat.mul_le_mul_right _ h
            omega
        refine T_seq ?_
        refine T_sr ?_
        refine S_mv rfl rfl rfl ?_
        refine S_mv rfl rfl rfl ?_
        refine S_callV rfl rfl (bod rfl) (fun w hs => hl _ (by first | exact hs.rowRd 0 rfl | exact hs.rowRd 1 rfl | exact hs.rowRd 2 rfl | exact hs.rowRd 3 rfl | exact hs.rowRd 4 rfl | exact hs.rowRd 5 rfl | exact hs.rowRd 6 rfl | exact hs.rowRd 7 rfl | exact hs.rowRd 8 rfl | exact hs.rowRd 9 rfl | exact hs.rowRd 10 rfl | exact hs.rowRd 11 rfl | exact hs.rowRd 12 rfl | exact hs.rowRd 13 rfl | exact Rd.st (by assumption) hs) (by first | exact hs.rowRd 0 rfl | exact hs.rowRd 1 rfl | exact hs.rowRd 2 rfl | exact hs.rowRd 3 rfl | exact hs.rowRd 4 rfl | exact hs.rowRd 5 rfl | exact hs.rowRd 6 rfl | exact hs.rowRd 7 rfl | exact hs.rowRd 8 rfl | exact hs.rowRd 9 rfl | exact hs.rowRd 10 rfl | exact hs.rowRd 11 rfl | exact hs.rowRd 12 rfl | exact hs.rowRd 13 rfl | exact Rd.st (by assumption) hs)) rfl rfl ?_
        refine S_val rfl rfl (Y_not rfl rfl) ?_
        refine S_nx ?_
        refine T_cond_true rfl ?_
        refine T_skip ?_
        refine X_seq ?_
        refine T_block ?_
        refine T_sr ?_
        refine S_mv rfl rfl rfl ?_
        refine S_mv rfl rfl rfl ?_
        refine S_callR _ rfl rfl (bod rfl) (fun w hs => nminus_any z y (t + 1) m hst hy (by omega) (by omega) v2 u _ (by first | exact hs.rowRd 0 rfl | exact hs.rowRd 1 rfl | exact hs.rowRd 2 rfl | exact hs.rowRd 3 rfl | exact hs.rowRd 4 rfl | exact hs.rowRd 5 rfl | exact hs.rowRd 6 rfl | exact hs.rowRd 7 rfl | exact hs.rowRd 8 rfl | exact hs.rowRd 9 rfl | exact hs.rowRd 10 rfl | exact hs.rowRd 11 rfl | exact hs.rowRd 12 rfl | exact hs.rowRd 13 rfl | exact Rd.st (by assumption) hs) (by first | exact hs.rowRd 0 rfl | exact hs.rowRd 1 rfl | exact hs.rowRd 2 rfl | exact hs.rowRd 3 rfl | exact hs.rowRd 4 rfl | exact hs.rowRd 5 rfl | exact hs.rowRd 6 rfl | exact hs.rowRd 7 rfl | exact hs.rowRd 8 rfl | exact hs.rowRd 9 rfl | exact hs.rowRd 10 rfl | exact hs.rowRd 11 rfl | exact hs.rowRd 12 rfl | exact hs.rowRd 13 rfl | exact Rd.st (by assumption) hs)) rfl rfl fun _ => ?_
        refine S_as rfl rfl rfl ?_
        refine S_nx ?_
        refine T_region ?_
        refine S_mv rfl rfl rfl ?_
        refine S_mv rfl rfl rfl ?_
        refine S_val rfl rfl (Y_ixV (und rfl) (siz rfl) rfl rfl (fun _ hs => hs.rowRd 0 rfl) (nat_cast _) (dl_lt (by assumption))) ?_
        refine S_val rfl rfl (Y_loadV (und rfl) rfl rfl (fun _ hs => hs.rowRd 0 rfl) (dl_get (by assumption))) ?_
        refine S_val rfl rfl (Y_addN rfl rfl (nat_cast _) (nat_lit' _) (by omega)) ?_
        refine S_val rfl rfl (Y_ixV (und rfl) (siz rfl) rfl rfl (fun _ hs => hs.rowRd 0 rfl) (nat_cast _) (dl_lt (by assumption))) ?_
        refine S_storeR 0 (siz rfl) rfl rfl rfl (dl_lt (by assumption)) rfl ?_
        refine S_nil ?_
        refine X_blk ?_
        refine X_loop ?_
        refine ⟨(c + 1, z, _), hs', by dsimp only; omega, (by repeat (first | exact Env.sub_nil _ | (apply Env.sub_cons; rfl))), ?_⟩
        dsimp only
        have e3 : Q * 256 ^ (i + 1) + (c + 1) * 256 ^ i = (Q * 256 ^ (i + 1) + c * 256 ^ i) - (Q * 256 ^ (i + 1) + c * 256 ^ i) / 256 ^ i % 256 * 256 ^ i + ((Q * 256 ^ (i + 1) + c * 256 ^ i) / 256 ^ i % 256 + 1) * 256 ^ i := by
          rw [hdig, Nat.add_mul]
          omega
        rw [e3, ← dl_put (by omega) (by rw [hdig]; exact hc')]
        exact Emb.two 0 2 rfl rfl rfl
end Go.Proofs.YtjolmphkmfbpbaaDoor
/- The reference of layer 9: powers. -/
namespace Go.Proofs.YtjolmphkmfbpbaaDoor
open Go.RowKit
set_option maxRecDepth 20000
set_option maxHeartbeats 4000000
theorem r9of_any (n x : Nat) (_hx : x < 256 ^ n) (hn : n ≤ 100000) (v : Value) (w : World) (hr : Rd w v .u8 (bel n x)) : Fn Tryd.prog 54 #[v] w fun u N => N = [row .i64 (dl 256 n x) u] := by
  refine Fn_of (args := [v]) Tryd.func54 rfl Tryd.ntmps54 Tryd.results54 (by simp) ?_
  refine T_sr ?_
  refine S_as rfl rfl rfl ?_
  refine S_nx ?_
  refine T_sr ?_
  refine S_sliceR (und rfl) (siz rfl) (zer rfl) rfl rfl rfl rfl fun _ => ?_
  refine S_as rfl rfl rfl ?_
  refine S_nx ?_
  refine T_seq ?_
  refine T_sr ?_
  refine S_mv rfl rfl rfl ?_
  refine S_val rfl rfl (Y_lenV rfl (und rfl) rfl (fun _ hs => Rd.st (by assumption) hs) (bel_length _ _)) ?_
  refine S_val rfl rfl (Y_sub rfl rfl (wi64 (by omega) (by omega))) ?_
  refine S_as rfl rfl rfl ?_
  refine S_nx ?_
  refine T_block ?_
  rename_i v0
  refine T_loopE (α := Nat × Value) (fun a => a.1 ≤ n)
    (fun a => [(0, v), (3, a.2), (4, .int .i64 ((a.1 : Int) - 1))])
    (fun a => [row .i64 (dl 256 (n - a.1) x) a.2])
    (fun a => a.1) (n, v0) (Nat.le_refl _) (by repeat (first | exact Env.sub_nil _ | (apply Env.sub_cons; rfl))) (by dsimp only; rw [Nat.sub_self]; exact Emb.refl _) ?_
  rintro ⟨j, u⟩ hj
  dsimp only at hj ⊢
  by_cases h : j = 0
  · subst h
    refine T_seq ?_
    refine T_sr ?_
    refine S_mv rfl rfl rfl ?_
    refine S_val rfl rfl (Y_geq_f rfl rfl (by decide)) ?_
    refine S_nx ?_
    refine T_cond_false rfl ?_
    refine T_exit ?_
    refine X_seq_exit ?_
    refine X_loop_exit ?_
    refine X_blk_hit rfl ?_
    refine X_seq ?_
    refine T_sr ?_
    refine S_mv rfl rfl rfl ?_
    refine S_as rfl rfl rfl ?_
    refine S_nx ?_
    refine T_ret ?_
    ((first | refine X_fin_ret ?_ | refine X_fin ?_); exact ⟨[_], [_], .cons (.tmp rfl) .nil, Emb.one 0 rfl, rfl⟩)
  · obtain ⟨i, rfl⟩ : ∃ i, j = i + 1 := ⟨j - 1, by omega⟩
    rw [show (((i + 1 : Nat) : Int) - 1) = (i : Int) by omega]
    have hc := dig256_lt x (n - 1 - i)
    have he : dl 256 (n - i) x = dl 256 (n - (i + 1)) x ++ [((x / 256 ^ (n - 1 - i) % 256 : Nat) : Int)] := by
      rw [show n - i = (n - (i + 1)) + 1 by omega, dl_succ, show n - (i + 1) = n - 1 - i by omega]
    refine T_seq ?_
    refine T_sr ?_
    refine S_mv rfl rfl rfl ?_
    refine S_val rfl rfl (Y_geq_t rfl rfl (by omega)) ?_
    refine S_nx ?_
    refine T_cond_true rfl ?_
    refine T_skip ?_
    refine X_seq ?_
    refine T_seq ?_
    refine T_block ?_
    refine T_region ?_
    refine S_mv rfl rfl rfl ?_
    refine S_mv rfl rfl rfl ?_
    refine S_mv rfl rfl rfl ?_
    refine S_val rfl rfl (Y_ixV (und rfl) (siz rfl) rfl rfl (fun _ hs => Rd.st (by assumption) hs) (nat_cast _) (by simp; omega)) ?_
    refine S_val rfl rfl (Y_loadV (und rfl) rfl rfl (fun _ hs => Rd.st (by assumption) hs) (bel_get (by assumption))) ?_
    refine S_val rfl rfl (Y_conv (und rfl) (und rfl) rfl (wi64 (by omega) (by omega))) ?_
    refine S_sliceR (und rfl) (siz rfl) (zer rfl) rfl rfl rfl rfl fun _ => ?_
    refine S_append 0 rfl (und rfl) (und rfl) (siz rfl) (byt rfl) (zer rfl) rfl rfl rfl (fun _ hs => hs.rowRd 1 rfl) (by simp; omega) rfl rfl rfl fun _ => ?_
    refine S_as rfl rfl rfl ?_
    refine S_nil ?_
    refine X_blk ?_
    refine X_seq ?_
    refine T_region ?_
    refine S_mv rfl rfl rfl ?_
    refine S_val rfl rfl (Y_sub rfl rfl (wi64 (by omega) (by omega))) ?_
    refine S_as rfl rfl rfl ?_
    refine S_nil ?_
    refine X_loop ?_
    exact ⟨(i, _), by dsimp only; omega, by dsimp only; omega, (by repeat (first | exact Env.sub_nil _ | (apply Env.sub_cons; rfl))), by dsimp only; rw [he]; exact Emb.one 0 rfl⟩
theorem r9bytes_any (x m n : Nat) (hx : x < 256 ^ m) (hm : m ≤ 100000) (hn : n ≤ 100000) (v : Value) (w : World) (hr : Rd w v .i64 (dl 256 m x)) : Fn Tryd.prog 56 #[v, .int .i64 n] w fun u N => N = [row .u8 (bel n x) u] := by
  refine Fn_of (args := [v, .int .i64 n]) Tryd.func56 rfl Tryd.ntmps56 Tryd.results56 (by simp) ?_
  refine T_sr ?_
  refine S_as rfl rfl rfl ?_
  refine S_nx ?_
  refine T_sr ?_
  refine S_sliceR (und rfl) (siz rfl) (zer rfl) rfl rfl rfl rfl fun _ => ?_
  refine S_as rfl rfl rfl ?_
  refine S_nx ?_
  refine T_seq ?_
  refine T_sr ?_
  refine S_mv rfl rfl rfl ?_
  refine S_val rfl rfl (Y_sub rfl rfl (wi64 (by omega) (by omega))) ?_
  refine S_as rfl rfl rfl ?_
  refine S_nx ?_
  refine T_block ?_
  rename_i v0
  refine T_loopE (α := Nat × Value) (fun a => a.1 ≤ n)
    (fun a => [(0, v), (5, a.2), (6, .int .i64 ((a.1 : Int) - 1))])
    (fun a => [row .u8 (bel (n - a.1) (x / 256 ^ a.1)) a.2])
    (fun a => a.1) (n, v0) (Nat.le_refl _) (by repeat (first | exact Env.sub_nil _ | (apply Env.sub_cons; rfl))) (by dsimp only; rw [Nat.sub_self]; exact Emb.refl _) ?_
  rintro ⟨j, u⟩ hj
  dsimp only at hj ⊢
  by_cases h : j = 0
  · subst h
    rw [Nat.sub_zero, Nat.pow_zero, Nat.div_one]
    refine T_seq ?_
    refine T_sr ?_
    refine S_mv rfl rfl rfl ?_
    refine S_val rfl rfl (Y_geq_f rfl rfl (by decide)) ?_
    refine S_nx ?_
    refine T_cond_false rfl ?_
    refine T_exit ?_
    refine X_seq_exit ?_
    refine X_loop_exit ?_
    refine X_blk_hit rfl ?_
    refine X_seq ?_
    refine T_sr ?_
    refine S_mv rfl rfl rfl ?_
    refine S_as rfl rfl rfl ?_
    refine S_nx ?_
    refine T_ret ?_
    ((first | refine X_fin_ret ?_ | refine X_fin ?_); exact ⟨[_], [_], .cons (.tmp rfl) .nil, Emb.one 0 rfl, rfl⟩)
  · obtain ⟨i, rfl⟩ : ∃ i, j = i + 1 := ⟨j - 1, by omega⟩
    rw [show (((i + 1 : Nat) : Int) - 1) = (i : Int) by omega]
    have hc := dig256_lt x i
    have he : bel (n - i) (x / 256 ^ i) = bel (n - (i + 1)) (x / 256 ^ (i + 1)) ++ [((x / 256 ^ i % 256 : Nat) : Int)] := by
      rw [bel_snoc _ _ _ hc, show n - i = (n - (i + 1)) + 1 by omega, Nat.pow_succ, ← Nat.div_div_eq_div_mul]
      congr 1
      omega
    by_cases h2 : i < m
    · refine T_seq ?_
      refine T_sr ?_
      refine S_mv rfl rfl rfl ?_
      refine S_val rfl rfl (Y_geq_t rfl rfl (by omega)) ?_
      refine S_nx ?_
      refine T_cond_true rfl ?_
      refine T_skip ?_
      refine X_seq ?_
      refine T_seq ?_
      refine T_block ?_
      refine T_sr ?_
      refine S_as rfl rfl rfl ?_
      refine S_nx ?_
      refine T_seq ?_
      refine T_sr ?_
      refine S_mv rfl rfl rfl ?_
      refine S_mv rfl rfl rfl ?_
      refine S_val rfl rfl (Y_lenV rfl (und rfl) rfl (fun _ hs => Rd.st (by assumption) hs) (dl_length _ _ _)) ?_
      refine S_val rfl rfl (Y_lss_t rfl rfl (by omega)) ?_
      refine S_nx ?_
      refine T_cond_true rfl ?_
      refine T_region ?_
      refine S_mv rfl rfl rfl ?_
      refine S_mv rfl rfl rfl ?_
      refine S_val rfl rfl (Y_ixV (und rfl) (siz rfl) rfl rfl (fun _ hs => Rd.st (by assumption) hs) (nat_cast _) (dl_lt (by assumption))) ?_
      refine S_val rfl rfl (Y_loadV (und rfl) rfl rfl (fun _ hs => Rd.st (by assumption) hs) (dl_get (by assumption))) ?_
      refine S_as rfl rfl rfl ?_
      refine S_nx ?_
      refine T_region ?_
      refine S_mv rfl rfl rfl ?_
      refine S_mv rfl rfl rfl ?_
      refine S_val rfl rfl (Y_conv (und rfl) (und rfl) rfl (wu8 (by omega) (by omega))) ?_
      refine S_sliceR (und rfl) (siz rfl) (zer rfl) rfl rfl rfl rfl fun _ => ?_
      refine S_append 0 rfl (und rfl) (und rfl) (siz rfl) (byt rfl) (zer rfl) rfl rfl rfl (fun _ hs => hs.rowRd 1 rfl) (by simp; omega) rfl rfl rfl fun _ => ?_
      refine S_as rfl rfl rfl ?_
      refine S_nil ?_
      refine X_blk ?_
      refine X_seq ?_
      refine T_region ?_
      refine S_mv rfl rfl rfl ?_
      refine S_val rfl rfl (Y_sub rfl rfl (wi64 (by omega) (by omega))) ?_
      refine S_as rfl rfl rfl ?_
      refine S_nil ?_
      refine X_loop ?_
      exact ⟨(i, _), by dsimp only; omega, by dsimp only; omega, (by repeat (first | exact Env.sub_nil _ | (apply Env.sub_cons; rfl))), by dsimp only; rw [he]; exact Emb.one 0 rfl⟩
    · have hz : x / 256 ^ i % 256 = 0 := dig_high' (by omega) hx (by omega)
      rw [hz] at he
      refine T_seq ?_
      refine T_sr ?_
      refine S_mv rfl rfl rfl ?_
      refine S_val rfl rfl (Y_geq_t rfl rfl (by omega)) ?_
      refine S_nx ?_
      refine T_cond_true rfl ?_
      refine T_skip ?_
      refine X_seq ?_
      refine T_seq ?_
      refine T_block ?_
      refine T_sr ?_
      refine S_as rfl rfl rfl ?_
      refine S_nx ?_
      refine T_seq ?_
      refine T_sr ?_
      refine S_mv rfl rfl rfl ?_
      refine S_mv rfl rfl rfl ?_
      refine S_val rfl rfl (Y_lenV rfl (und rfl) rfl (fun _ hs => Rd.st (by assumption) hs) (dl_length _ _ _)) ?_
      refine S_val rfl rfl (Y_lss_f rfl rfl (by omega)) ?_
      refine S_nx ?_
      refine T_cond_false rfl ?_
      refine T_skip ?_
      refine X_seq ?_
      refine T_region ?_
      refine S_mv rfl rfl rfl ?_
      refine S_mv rfl rfl rfl ?_
      refine S_val rfl rfl (Y_conv (und rfl) (und rfl) rfl (wu8 (by omega) (by omega))) ?_
      refine S_sliceR (und rfl) (siz rfl) (zer rfl) rfl rfl rfl rfl fun _ => ?_
      refine S_append 0 rfl (und rfl) (und rfl) (siz rfl) (byt rfl) (zer rfl) rfl rfl rfl (fun _ hs => hs.rowRd 1 rfl) (by simp; omega) rfl rfl rfl fun _ => ?_
      refine S_as rfl rfl rfl ?_
      refine S_nil ?_
      refine X_blk ?_
      refine X_seq ?_
      refine T_region ?_
      refine S_mv rfl rfl rfl ?_
      refine S_val rfl rfl (Y_sub rfl rfl (wi64 (by omega) (by omega))) ?_
      refine S_as rfl rfl rfl ?_
      refine S_nil ?_
      refine X_loop ?_
      exact ⟨(i, _), by dsimp only; omega, by dsimp only; omega, (by repeat (first | exact Env.sub_nil _ | (apply Env.sub_cons; rfl))), by dsimp only; rw [he]; exact Emb.one 0 rfl⟩
/-- A number of the reference, of at most so many digits. -/
def NR (k r : Nat) (u : Value) (N : Hp) : Prop := ∃ j, r < 256 ^ j ∧ j ≤ k ∧ N = [row .i64 (dl 256 j r) u]
theorem r9mul_any (x y M n m k : Nat) (hx : x < 256 ^ n) (hy : y < 256 ^ m) (hM : M < 256 ^ k) (h0 : M ≠ 0) (hn : n ≤ 100000) (hm : m ≤ 100000) (hk : k ≤ 100000) (v u z : Value) (w : World)
    (hv : Rd w v .i64 (dl 256 n x)) (hu : Rd w u .i64 (dl 256 m y)) (hz : Rd w z .i64 (dl 256 k M)) : Fn Tryd.prog 55 #[v, u, z] w (NR k (x * y % M)) := by
  have t := fun w h h' => ntimes_any x y n m hx hy (by omega) (by omega) v u w h h'
  have hxy : x * y < 256 ^ (n + m + 1) := by
    rw [Nat.pow_succ, Nat.pow_add]
    have := Nat.mul_lt_mul'' hx hy
    omega
  have d := fun v2 w h h' => ndiv_any (x * y) M (n + m + 1) k hxy hM (by omega) (by omega) v2 z w h h'
  simp only [if_neg h0] at d
  clear hxy
  generalize x * y = p at *
  refine Fn_of (args := [v, u, z]) Tryd.func55 rfl Tryd.ntmps55 Tryd.results55 (by simp) ?_
  refine T_sr ?_
  refine S_as rfl rfl rfl ?_
  refine S_nx ?_
  refine T_sr ?_
  refine S_mv rfl rfl rfl ?_
  refine S_mv rfl rfl rfl ?_
  refine S_callR _ rfl rfl (bod rfl) (fun w hs => t _ (by first | exact hs.rowRd 0 rfl | exact hs.rowRd 1 rfl | exact hs.rowRd 2 rfl | exact hs.rowRd 3 rfl | exact hs.rowRd 4 rfl | exact hs.rowRd 5 rfl | exact hs.rowRd 6 rfl | exact hs.rowRd 7 rfl | exact hs.rowRd 8 rfl | exact hs.rowRd 9 rfl | exact hs.rowRd 10 rfl | exact hs.rowRd 11 rfl | exact hs.rowRd 12 rfl | exact hs.rowRd 13 rfl | exact Rd.st (by assumption) hs) (by first | exact hs.rowRd 0 rfl | exact hs.rowRd 1 rfl | exact hs.rowRd 2 rfl | exact hs.rowRd 3 rfl | exact hs.rowRd 4 rfl | exact hs.rowRd 5 rfl | exact hs.rowRd 6 rfl | exact hs.rowRd 7 rfl | exact hs.rowRd 8 rfl | exact hs.rowRd 9 rfl | exact hs.rowRd 10 rfl | exact hs.rowRd 11 rfl | exact hs.rowRd 12 rfl | exact hs.rowRd 13 rfl | exact Rd.st (by assumption) hs)) rfl rfl fun _ => ?_
  refine S_mv rfl rfl rfl ?_
  refine S_call _ rfl rfl (bod rfl) (fun w hs => d _ _ (by first | exact hs.rowRd 0 rfl | exact hs.rowRd 1 rfl | exact hs.rowRd 2 rfl | exact hs.rowRd 3 rfl | exact hs.rowRd 4 rfl | exact hs.rowRd 5 rfl | exact hs.rowRd 6 rfl | exact hs.rowRd 7 rfl | exact hs.rowRd 8 rfl | exact hs.rowRd 9 rfl | exact hs.rowRd 10 rfl | exact hs.rowRd 11 rfl | exact hs.rowRd 12 rfl | exact hs.rowRd 13 rfl | exact Rd.st (by assumption) hs) (by first | exact hs.rowRd 0 rfl | exact hs.rowRd 1 rfl | exact hs.rowRd 2 rfl | exact hs.rowRd 3 rfl | exact hs.rowRd 4 rfl | exact hs.rowRd 5 rfl | exact hs.rowRd 6 rfl | exact hs.rowRd 7 rfl | exact hs.rowRd 8 rfl | exact hs.rowRd 9 rfl | exact hs.rowRd 10 rfl | exact hs.rowRd 11 rfl | exact hs.rowRd 12 rfl | exact hs.rowRd 13 rfl | exact Rd.st (by assumption) hs)) rfl rfl ?_
  rintro _ _ ⟨j, r, v1, v2, rfl, hrj, hj, rfl, rfl⟩
  refine S_mv rfl rfl rfl ?_
  refine S_val rfl rfl (Y_extract rfl rfl) ?_
  refine S_val rfl rfl (Y_extract rfl rfl) ?_
  refine S_as rfl rfl rfl ?_
  refine S_as rfl rfl rfl ?_
  refine S_nx ?_
  refine T_sr ?_
  refine S_mv rfl rfl rfl ?_
  refine S_as rfl rfl rfl ?_
  refine S_nx ?_
  refine T_ret ?_
  ((first | refine X_fin_ret ?_ | refine X_fin ?_); exact ⟨[_], [_], .cons (.tmp rfl) .nil, Emb.one 2 rfl, ⟨j, hrj, hj, rfl⟩⟩)
theorem low_step (b M A T c k : Nat) : b ^ (A + c % 2 ^ (k + 1) * T) % M = (if c / 2 ^ k % 2 = 1 then (b ^ (A + c % 2 ^ k * T) % M) * (b ^ (T * 2 ^ k) % M) % M else b ^ (A + c % 2 ^ k * T) % M) := by
  have e : c % 2 ^ (k + 1) = c % 2 ^ k + c / 2 ^ k % 2 * 2 ^ k := mod_pow_succ' c 2 k
  rw [e]
  split
  · rename_i h
    rw [h, Nat.one_mul, Nat.add_mul, ← Nat.add_assoc, Nat.mul_comm (2 ^ k) T, Nat.pow_add, Nat.mul_mod]
  · rename_i h
    rw [show c / 2 ^ k % 2 = 0 by omega, Nat.zero_mul, Nat.add_zero]
theorem sq_step (b M T k : Nat) : b ^ (T * 2 ^ (k + 1)) % M = (b ^ (T * 2 ^ k) % M) * (b ^ (T * 2 ^ k) % M) % M := by
  rw [Nat.pow_succ, show T * (2 ^ k * 2) = T * 2 ^ k + T * 2 ^ k by rw [Nat.mul_two, Nat.mul_add], Nat.pow_add, Nat.mul_mod]
theorem r9pow_any (i0 b n e k M : Nat) (hb : b < 256 ^ i0) (he : e < 256 ^ n) (hM : M < 256 ^ k) (hi : i0 ≤ 1000) (hn : n ≤ 1000) (hk : k ≤ 1000) (v0 v1 v2 : Value) (w : World)
    (r0 : Rd w v0 .u8 (bel i0 b)) (r1 : Rd w v1 .u8 (bel n e)) (r2 : Rd w v2 .u8 (bel k M)) : Fn Tryd.prog 29 #[v0, v1, v2] w fun u N => N = [row .u8 (bel k (if M = 0 then 0 else b ^ e % M)) u] := by
  have o2 := fun w h => r9of_any k M hM (by omega) v2 w h
  have z2 := fun v w h => nzero_any M k hM (by omega) v w h
  by_cases h0 : M = 0
  · rw [if_pos h0, bel_zero]
    rw [decide_eq_true h0] at z2
    refine Fn_of (args := [v0, v1, v2]) Tryd.func29 rfl Tryd.ntmps29 Tryd.results29 (by simp) ?_
    refine T_sr ?_
    refine S_as rfl rfl rfl ?_
    refine S_nx ?_
    refine T_sr ?_
    refine S_mv rfl rfl rfl ?_
    refine S_callR _ rfl rfl (bod rfl) (fun w hs => o2 _ (by first | exact hs.rowRd 0 rfl | exact hs.rowRd 1 rfl | exact hs.rowRd 2 rfl | exact hs.rowRd 3 rfl | exact hs.rowRd 4 rfl | exact hs.rowRd 5 rfl | exact hs.rowRd 6 rfl | exact hs.rowRd 7 rfl | exact hs.rowRd 8 rfl | exact hs.rowRd 9 rfl | exact hs.rowRd 10 rfl | exact hs.rowRd 11 rfl | exact hs.rowRd 12 rfl | exact hs.rowRd 13 rfl | exact Rd.st (by assumption) hs)) rfl rfl fun _ => ?_
    refine S_as rfl rfl rfl ?_
    refine S_nx ?_
    refine T_seq ?_
    refine T_sr ?_
    refine S_mv rfl rfl rfl ?_
    refine S_callV rfl rfl (bod rfl) (fun w hs => z2 _ _ (by first | exact hs.rowRd 0 rfl | exact hs.rowRd 1 rfl | exact hs.rowRd 2 rfl | exact hs.rowRd 3 rfl | exact hs.rowRd 4 rfl | exact hs.rowRd 5 rfl | exact hs.rowRd 6 rfl | exact hs.rowRd 7 rfl | exact hs.rowRd 8 rfl | exact hs.rowRd 9 rfl | exact hs.rowRd 10 rfl | exact hs.rowRd 11 rfl | exact hs.rowRd 12 rfl | exact hs.rowRd 13 rfl | exact Rd.st (by assumption) hs)) rfl rfl ?_
    refine S_nx ?_
    refine T_cond_true rfl ?_
    refine T_sr ?_
    refine S_mv rfl rfl rfl ?_
    refine S_val rfl rfl (Y_lenV rfl (und rfl) rfl (fun _ hs => Rd.st (by assumption) hs) (bel_length _ _)) ?_
    refine S_makeR (und rfl) (siz rfl) (byt rfl) (zer rfl) rfl rfl (nat_cast _) (by omega) rfl rfl rfl fun _ => ?_
    refine S_as rfl rfl rfl ?_
    refine S_nx ?_
    refine T_ret ?_
    refine X_seq_ret ?_
    ((first | refine X_fin_ret ?_ | refine X_fin ?_); exact ⟨[_], [_], .cons (.tmp rfl) .nil, Emb.one 1 rfl, rfl⟩)
  · rw [if_neg h0]
    rw [decide_eq_false h0] at z2
    have hM0 : 0 < M := by omega
    have o0 := fun w h => r9of_any i0 b hb (by omega) v0 w h
    have d0 := fun v u w h h' => ndiv_any b M i0 k hb hM (by omega) (by omega) v u w h h'
    have d1 := fun v u w h h' => ndiv_any 1 M 1 k (by omega) hM (by omega) (by omega) v u w h h'
    simp only [if_neg h0] at d0 d1
    refine Fn_of (args := [v0, v1, v2]) Tryd.func29 rfl Tryd.ntmps29 Tryd.results29 (by simp) ?_
    refine T_sr ?_
    refine S_as rfl rfl rfl ?_
    refine S_nx ?_
    refine T_sr ?_
    refine S_mv rfl rfl rfl ?_
    refine S_callR _ rfl rfl (bod rfl) (fun w hs => o2 _ (by first | exact hs.rowRd 0 rfl | exact hs.rowRd 1 rfl | exact hs.rowRd 2 rfl | exact hs.rowRd 3 rfl | exact hs.rowRd 4 rfl | exact hs.rowRd 5 rfl | exact hs.rowRd 6 rfl | exact hs.rowRd 7 rfl | exact hs.rowRd 8 rfl | exact hs.rowRd 9 rfl | exact hs.rowRd 10 rfl | exact hs.rowRd 11 rfl | exact hs.rowRd 12 rfl | exact hs.rowRd 13 rfl | exact Rd.st (by assumption) hs)) rfl rfl fun _ => ?_
    refine S_as rfl rfl rfl ?_
    refine S_nx ?_
    refine T_seq ?_
    refine T_sr ?_
    refine S_mv rfl rfl rfl ?_
    refine S_callV rfl rfl (bod rfl) (fun w hs => z2 _ _ (by first | exact hs.rowRd 0 rfl | exact hs.rowRd 1 rfl | exact hs.rowRd 2 rfl | exact hs.rowRd 3 rfl | exact hs.rowRd 4 rfl | exact hs.rowRd 5 rfl | exact hs.rowRd 6 rfl | exact hs.rowRd 7 rfl | exact hs.rowRd 8 rfl | exact hs.rowRd 9 rfl | exact hs.rowRd 10 rfl | exact hs.rowRd 11 rfl | exact hs.rowRd 12 rfl | exact hs.rowRd 13 rfl | exact Rd.st (by assumption) hs)) rfl rfl ?_
    refine S_nx ?_
    refine T_cond_false rfl ?_
    refine T_skip ?_
    refine X_seq ?_
    refine T_sr ?_
    refine S_mv rfl rfl rfl ?_
    refine S_callR _ rfl rfl (bod rfl) (fun w hs => o0 _ (by first | exact hs.rowRd 0 rfl | exact hs.rowRd 1 rfl | exact hs.rowRd 2 rfl | exact hs.rowRd 3 rfl | exact hs.rowRd 4 rfl | exact hs.rowRd 5 rfl | exact hs.rowRd 6 rfl | exact hs.rowRd 7 rfl | exact hs.rowRd 8 rfl | exact hs.rowRd 9 rfl | exact hs.rowRd 10 rfl | exact hs.rowRd 11 rfl | exact hs.rowRd 12 rfl | exact hs.rowRd 13 rfl | exact Rd.st (by assumption) hs)) rfl rfl fun _ => ?_
    refine S_mv rfl rfl rfl ?_
    refine S_call _ rfl rfl (bod rfl) (fun w hs => d0 _ _ _ (by first | exact hs.rowRd 0 rfl | exact hs.rowRd 1 rfl | exact hs.rowRd 2 rfl | exact hs.rowRd 3 rfl | exact hs.rowRd 4 rfl | exact hs.rowRd 5 rfl | exact hs.rowRd 6 rfl | exact hs.rowRd 7 rfl | exact hs.rowRd 8 rfl | exact hs.rowRd 9 rfl | exact hs.rowRd 10 rfl | exact hs.rowRd 11 rfl | exact hs.rowRd 12 rfl | exact hs.rowRd 13 rfl | exact Rd.st (by assumption) hs) (by first | exact hs.rowRd 0 rfl | exact hs.rowRd 1 rfl | exact hs.rowRd 2 rfl | exact hs.rowRd 3 rfl | exact hs.rowRd 4 rfl | exact hs.rowRd 5 rfl | exact hs.rowRd 6 rfl | exact hs.rowRd 7 rfl | exact hs.rowRd 8 rfl | exact hs.rowRd 9 rfl | exact hs.rowRd 10 rfl | exact hs.rowRd 11 rfl | exact hs.rowRd 12 rfl | exact hs.rowRd 13 rfl | exact Rd.st (by assumption) hs)) rfl rfl ?_
    rintro _ _ ⟨jb, rb, q1, vb, hrb, hrj, hjb, rfl, rfl⟩
    refine S_mv rfl rfl rfl ?_
    refine S_val rfl rfl (Y_extract rfl rfl) ?_
    refine S_val rfl rfl (Y_extract rfl rfl) ?_
    refine S_as rfl rfl rfl ?_
    refine S_as rfl rfl rfl ?_
    refine S_nx ?_
    refine T_sr ?_
    refine S_sliceR (und rfl) (siz rfl) (zer rfl) rfl rfl rfl rfl fun _ => ?_
    refine S_mv rfl rfl rfl ?_
    refine S_call _ rfl rfl (bod rfl) (fun w hs => d1 _ _ _ (hs.rowRd 4 rfl) (by first | exact hs.rowRd 0 rfl | exact hs.rowRd 1 rfl | exact hs.rowRd 2 rfl | exact hs.rowRd 3 rfl | exact hs.rowRd 4 rfl | exact hs.rowRd 5 rfl | exact hs.rowRd 6 rfl | exact hs.rowRd 7 rfl | exact hs.rowRd 8 rfl | exact hs.rowRd 9 rfl | exact hs.rowRd 10 rfl | exact hs.rowRd 11 rfl | exact hs.rowRd 12 rfl | exact hs.rowRd 13 rfl | exact Rd.st (by assumption) hs)) rfl rfl ?_
    rintro _ _ ⟨jo, ro, q2, vo, hro, hroj, hjo, rfl, rfl⟩
    refine S_mv rfl rfl rfl ?_
    refine S_val rfl rfl (Y_extract rfl rfl) ?_
    refine S_val rfl rfl (Y_extract rfl rfl) ?_
    refine S_as rfl rfl rfl ?_
    refine S_as rfl rfl rfl ?_
    refine S_nx ?_
    refine T_seq ?_
    refine T_sr ?_
    refine S_mv rfl rfl rfl ?_
    refine S_val rfl rfl (Y_lenV rfl (und rfl) rfl (fun _ hs => Rd.st (by assumption) hs) (bel_length _ _)) ?_
    refine S_val rfl rfl (Y_sub rfl rfl (wi64 (by omega) (by omega))) ?_
    refine S_as rfl rfl rfl ?_
    refine S_nx ?_
    refine T_block ?_
    rename_i vm _ _
    refine T_loopE (α := Nat × (Nat × Value) × (Nat × Value)) (fun a => a.1 ≤ n ∧ (b ^ 256 ^ (n - a.1) % M < 256 ^ a.2.1.1 ∧ a.2.1.1 ≤ k) ∧ (b ^ (e % 256 ^ (n - a.1)) % M < 256 ^ a.2.2.1 ∧ a.2.2.1 ≤ k))
      (fun a => [(1, v1), (2, v2), (7, vm), (9, a.2.1.2), (11, a.2.2.2), (12, .int .i64 ((a.1 : Int) - 1))])
      (fun a => [row .i64 (dl 256 k M) vm, row .i64 (dl 256 a.2.1.1 (b ^ 256 ^ (n - a.1) % M)) a.2.1.2, row .i64 (dl 256 a.2.2.1 (b ^ (e % 256 ^ (n - a.1)) % M)) a.2.2.2])
      (fun a => a.1) (n, (jb, vb), (jo, vo)) (by
        dsimp only
        rw [Nat.sub_self, Nat.pow_zero, Nat.pow_one, Nat.mod_one, Nat.pow_zero, ← hrb, ← hro]
        exact ⟨Nat.le_refl _, ⟨hrj, hjb⟩, ⟨hroj, hjo⟩⟩) (by repeat (first | exact Env.sub_nil _ | (apply Env.sub_cons; rfl))) (by
        dsimp only
        rw [Nat.sub_self, Nat.pow_zero, Nat.pow_one, Nat.mod_one, Nat.pow_zero, ← hrb, ← hro]
        exact Emb.idx [0, 3, 6] rfl rfl) ?_
    clear hrb hrj hjb hro hroj hjo
    rintro ⟨j, ⟨jb, vb⟩, ⟨jo, vo⟩⟩ ⟨hj, ⟨hb1, hb2⟩, ⟨ho1, ho2⟩⟩
    dsimp only at hj hb1 hb2 ho1 ho2 ⊢
    by_cases h : j = 0
    · subst h
      rw [Nat.sub_zero, Nat.mod_eq_of_lt he] at ho1 ⊢
      have bt := fun v w h => r9bytes_any (b ^ e % M) jo k ho1 (by omega) (by omega) v w h
      generalize b ^ e % M = z at *
      clear hb1
      refine T_seq ?_
      refine T_sr ?_
      refine S_mv rfl rfl rfl ?_
      refine S_val rfl rfl (Y_geq_f rfl rfl (by decide)) ?_
      refine S_nx ?_
      refine T_cond_false rfl ?_
      refine T_exit ?_
      refine X_seq_exit ?_
      refine X_loop_exit ?_
      refine X_blk_hit rfl ?_
      refine X_seq ?_
      refine T_sr ?_
      refine S_mv rfl rfl rfl ?_
      refine S_mv rfl rfl rfl ?_
      refine S_val rfl rfl (Y_lenV rfl (und rfl) rfl (fun _ hs => Rd.st (by assumption) hs) (bel_length _ _)) ?_
      refine S_callR _ rfl rfl (bod rfl) (fun w hs => bt _ _ (by first | exact hs.rowRd 0 rfl | exact hs.rowRd 1 rfl | exact hs.rowRd 2 rfl | exact hs.rowRd 3 rfl | exact hs.rowRd 4 rfl | exact hs.rowRd 5 rfl | exact hs.rowRd 6 rfl | exact hs.rowRd 7 rfl | exact hs.rowRd 8 rfl | exact hs.rowRd 9 rfl | exact hs.rowRd 10 rfl | exact hs.rowRd 11 rfl | exact hs.rowRd 12 rfl | exact hs.rowRd 13 rfl | exact Rd.st (by assumption) hs)) rfl rfl fun _ => ?_
      refine S_as rfl rfl rfl ?_
      refine S_nx ?_
      refine T_ret ?_
      ((first | refine X_fin_ret ?_ | refine X_fin ?_); exact ⟨[_], [_], .cons (.tmp rfl) .nil, Emb.one 3 rfl, rfl⟩)
    · obtain ⟨i, rfl⟩ : ∃ i, j = i + 1 := ⟨j - 1, by omega⟩
      rw [show (((i + 1 : Nat) : Int) - 1) = (i : Int) by omega]
      obtain ⟨c, hcd⟩ : ∃ c, c = e / 256 ^ (n - 1 - i) % 256 := ⟨_, rfl⟩
      have hc : c < 256 := by rw [hcd]; exact Nat.mod_lt _ (by omega)
      have hT : 256 ^ (n - i) = 256 ^ (n - (i + 1)) * 2 ^ 8 := by rw [show n - i = n - (i + 1) + 1 by omega, Nat.pow_succ]
      have hA : e % 256 ^ (n - i) = e % 256 ^ (n - (i + 1)) + c % 2 ^ 8 * 256 ^ (n - (i + 1)) := by
        rw [show n - i = n - (i + 1) + 1 by omega, mod_pow_succ', hcd, show n - 1 - i = n - (i + 1) by omega, Nat.mod_mod]
      clear o0 o2 d0 d1 z2 hb
      refine T_seq ?_
      refine T_sr ?_
      refine S_mv rfl rfl rfl ?_
      refine S_val rfl rfl (Y_geq_t rfl rfl (by omega)) ?_
      refine S_nx ?_
      refine T_cond_true rfl ?_
      refine T_skip ?_
      refine X_seq ?_
      refine T_seq ?_
      refine T_block ?_
      refine T_sr ?_
      refine S_mv rfl rfl rfl ?_
      refine S_mv rfl rfl rfl ?_
      refine S_val rfl rfl (Y_ixV (und rfl) (siz rfl) rfl rfl (fun _ hs => Rd.st (by assumption) hs) (nat_cast _) (by simp; omega)) ?_
      refine S_val rfl rfl (Y_loadV (und rfl) rfl rfl (fun _ hs => Rd.st (by assumption) hs) (bel_get (by assumption))) ?_
      refine S_as rfl rfl rfl ?_
      refine S_nx ?_
      refine T_sr ?_
      refine S_as rfl rfl rfl ?_
      refine S_nx ?_
      refine T_block ?_
      rw [← hcd]
      clear hcd he
      refine T_loopE (α := Nat × (Nat × Value) × (Nat × Value)) (fun a => a.1 ≤ 8 ∧ (b ^ (256 ^ (n - (i + 1)) * 2 ^ a.1) % M < 256 ^ a.2.1.1 ∧ a.2.1.1 ≤ k) ∧ (b ^ (e % 256 ^ (n - (i + 1)) + c % 2 ^ a.1 * 256 ^ (n - (i + 1))) % M < 256 ^ a.2.2.1 ∧ a.2.2.1 ≤ k))
        (fun a => [(1, v1), (2, v2), (7, vm), (9, a.2.1.2), (11, a.2.2.2), (12, .int .i64 i), (13, .int .u8 ((c / 2 ^ a.1 : Nat) : Int)), (14, .int .i64 a.1)])
        (fun a => [row .i64 (dl 256 k M) vm, row .i64 (dl 256 a.2.1.1 (b ^ (256 ^ (n - (i + 1)) * 2 ^ a.1) % M)) a.2.1.2, row .i64 (dl 256 a.2.2.1 (b ^ (e % 256 ^ (n - (i + 1)) + c % 2 ^ a.1 * 256 ^ (n - (i + 1))) % M)) a.2.2.2])
        (fun a => 8 - a.1) (0, (jb, vb), (jo, vo)) (by
          dsimp only
          rw [Nat.pow_zero, Nat.mul_one, Nat.mod_one, Nat.zero_mul, Nat.add_zero]
          exact ⟨by omega, ⟨hb1, hb2⟩, ⟨ho1, ho2⟩⟩) (by dsimp only; rw [Nat.pow_zero, Nat.div_one]; exact (by repeat (first | exact Env.sub_nil _ | (apply Env.sub_cons; rfl)))) (by
          dsimp only
          rw [Nat.pow_zero, Nat.mul_one, Nat.mod_one, Nat.zero_mul, Nat.add_zero]
          exact Emb.refl _) ?_
      clear hb1 hb2 ho1 ho2
      rintro ⟨t, ⟨jb, vb⟩, ⟨jo, vo⟩⟩ ⟨ht, ⟨hb1, hb2⟩, ⟨ho1, ho2⟩⟩
      dsimp only at ht hb1 hb2 ho1 ho2 ⊢
      by_cases h2 : t < 8
      · have hcu : ((c / 2 ^ t / 2 : Nat) : Int) = ((c / 2 ^ (t + 1) : Nat) : Int) := by rw [Nat.pow_succ, Nat.div_div_eq_div_mul]
        have hc2 : c / 2 ^ t < 256 := Nat.lt_of_le_of_lt (Nat.div_le_self _ _) hc
        have ls := low_step b M (e % 256 ^ (n - (i + 1))) (256 ^ (n - (i + 1))) c t
        have ss := sq_step b M (256 ^ (n - (i + 1))) t
        have m2 := fun v z w h hz => r9mul_any (b ^ (256 ^ (n - (i + 1)) * 2 ^ t) % M) (b ^ (256 ^ (n - (i + 1)) * 2 ^ t) % M) M jb jb k hb1 hb1 hM h0 (by omega) (by omega) (by omega) v v z w h h hz
        rw [← ss] at m2
        rcases Nat.mod_two_eq_zero_or_one (c / 2 ^ t) with hbit | hbit
        · rw [hbit, if_neg (by omega)] at ls
          have hbi : ¬ ((c / 2 ^ t % 2 : Nat) : Int) = 1 := by rw [hbit]; omega
          clear ss hbit hA hT
          refine T_seq ?_
          refine T_sr ?_
          refine S_mv rfl rfl rfl ?_
          refine S_val rfl rfl (Y_lss_t rfl rfl (by omega)) ?_
          refine S_nx ?_
          refine T_cond_true rfl ?_
          refine T_skip ?_
          refine X_seq ?_
          refine T_seq ?_
          refine T_block ?_
          refine T_seq ?_
          refine T_sr ?_
          refine S_mv rfl rfl rfl ?_
          refine S_val rfl rfl (Y_remN rfl rfl (nat_cast _) (nat_lit' _) (Nat.succ_ne_zero _)) ?_
          refine S_val rfl rfl (Y_eql_f rfl rfl (by assumption)) ?_
          refine S_nx ?_
          refine T_cond_false rfl ?_
          refine T_skip ?_
          refine X_seq ?_
          refine T_sr ?_
          refine S_mv rfl rfl rfl ?_
          refine S_val rfl rfl (Y_quoN rfl rfl (nat_cast _) (nat_lit' _) (Nat.succ_ne_zero _) (by first | with_reducible exact xi64 (by omega) | with_reducible exact x64 (by omega) | with_reducible exact x8 (by omega) | with_reducible exact x32 (by omega))) ?_
          refine S_as rfl rfl rfl ?_
          refine S_nx ?_
          refine T_region ?_
          refine S_mv rfl rfl rfl ?_
          refine S_mv rfl rfl rfl ?_
          refine S_mv rfl rfl rfl ?_
          refine S_call _ rfl rfl (bod rfl) (fun w hs => m2 _ _ _ (by first | exact hs.rowRd 0 rfl | exact hs.rowRd 1 rfl | exact hs.rowRd 2 rfl | exact hs.rowRd 3 rfl | exact hs.rowRd 4 rfl | exact hs.rowRd 5 rfl | exact hs.rowRd 6 rfl | exact hs.rowRd 7 rfl | exact hs.rowRd 8 rfl | exact hs.rowRd 9 rfl | exact hs.rowRd 10 rfl | exact hs.rowRd 11 rfl | exact hs.rowRd 12 rfl | exact hs.rowRd 13 rfl | exact Rd.st (by assumption) hs) (by first | exact hs.rowRd 0 rfl | exact hs.rowRd 1 rfl | exact hs.rowRd 2 rfl | exact hs.rowRd 3 rfl | exact hs.rowRd 4 rfl | exact hs.rowRd 5 rfl | exact hs.rowRd 6 rfl | exact hs.rowRd 7 rfl | exact hs.rowRd 8 rfl | exact hs.rowRd 9 rfl | exact hs.rowRd 10 rfl | exact hs.rowRd 11 rfl | exact hs.rowRd 12 rfl | exact hs.rowRd 13 rfl | exact Rd.st (by assumption) hs)) rfl rfl ?_
          rintro u N ⟨j2, hj2, hj3, rfl⟩
          refine S_as rfl rfl rfl ?_
          refine S_nil ?_
          refine X_blk ?_
          refine X_seq ?_
          refine T_region ?_
          refine S_mv rfl rfl rfl ?_
          refine S_val rfl rfl (Y_addN rfl rfl (nat_cast _) (nat_lit' _) (by omega)) ?_
          refine S_as rfl rfl rfl ?_
          refine S_nil ?_
          refine X_loop ?_
          refine ⟨(t + 1, (j2, u), (jo, vo)), ⟨by dsimp only; omega, ⟨hj2, hj3⟩, by dsimp only; rw [ls]; exact ⟨ho1, ho2⟩⟩, by dsimp only; omega, by dsimp only; rw [← hcu]; exact (by repeat (first | exact Env.sub_nil _ | (apply Env.sub_cons; rfl))), by dsimp only; rw [ls]; exact Emb.idx [0, 3, 2] rfl rfl⟩
        · rw [hbit, if_pos rfl] at ls
          have hbi : ((c / 2 ^ t % 2 : Nat) : Int) = 1 := by rw [hbit]; rfl
          have m1 := fun v u z w h h' hz => r9mul_any (b ^ (e % 256 ^ (n - (i + 1)) + c % 2 ^ t * 256 ^ (n - (i + 1))) % M) (b ^ (256 ^ (n - (i + 1)) * 2 ^ t) % M) M jo jb k ho1 hb1 hM h0 (by omega) (by omega) (by omega) v u z w h h' hz
          rw [← ls] at m1
          clear ss ls hbit hA hT
          refine T_seq ?_
          refine T_sr ?_
          refine S_mv rfl rfl rfl ?_
          refine S_val rfl rfl (Y_lss_t rfl rfl (by omega)) ?_
          refine S_nx ?_
          refine T_cond_true rfl ?_
          refine T_skip ?_
          refine X_seq ?_
          refine T_seq ?_
          refine T_block ?_
          refine T_seq ?_
          refine T_sr ?_
          refine S_mv rfl rfl rfl ?_
          refine S_val rfl rfl (Y_remN rfl rfl (nat_cast _) (nat_lit' _) (Nat.succ_ne_zero _)) ?_
          refine S_val rfl rfl (Y_eql_t rfl rfl (by assumption)) ?_
          refine S_nx ?_
          refine T_cond_true rfl ?_
          refine T_region ?_
          refine S_mv rfl rfl rfl ?_
          refine S_mv rfl rfl rfl ?_
          refine S_mv rfl rfl rfl ?_
          refine S_call _ rfl rfl (bod rfl) (fun w hs => m1 _ _ _ _ (by first | exact hs.rowRd 0 rfl | exact hs.rowRd 1 rfl | exact hs.rowRd 2 rfl | exact hs.rowRd 3 rfl | exact hs.rowRd 4 rfl | exact hs.rowRd 5 rfl | exact hs.rowRd 6 rfl | exact hs.rowRd 7 rfl | exact hs.rowRd 8 rfl | exact hs.rowRd 9 rfl | exact hs.rowRd 10 rfl | exact hs.rowRd 11 rfl | exact hs.rowRd 12 rfl | exact hs.rowRd 13 rfl | exact Rd.st (by assumption) hs) (by first | exact hs.rowRd 0 rfl | exact hs.rowRd 1 rfl | exact hs.rowRd 2 rfl | exact hs.rowRd 3 rfl | exact hs.rowRd 4 rfl | exact hs.rowRd 5 rfl | exact hs.rowRd 6 rfl | exact hs.rowRd 7 rfl | exact hs.rowRd 8 rfl | exact hs.rowRd 9 rfl | exact hs.rowRd 10 rfl | exact hs.rowRd 11 rfl | exact hs.rowRd 12 rfl | exact hs.rowRd 13 rfl | exact Rd.st (by assumption) hs) (hs.rowRd 0 rfl)) rfl rfl ?_
          rintro u1 N1 ⟨j1, hj1, hj4, rfl⟩
          refine S_as rfl rfl rfl ?_
          refine S_nx ?_
          refine T_sr ?_
          refine S_mv rfl rfl rfl ?_
          refine S_val rfl rfl (Y_quoN rfl rfl (nat_cast _) (nat_lit' _) (Nat.succ_ne_zero _) (by first | with_reducible exact xi64 (by omega) | with_reducible exact x64 (by omega) | with_reducible exact x8 (by omega) | with_reducible exact x32 (by omega))) ?_
          refine S_as rfl rfl rfl ?_
          refine S_nx ?_
          refine T_region ?_
          refine S_mv rfl rfl rfl ?_
          refine S_mv rfl rfl rfl ?_
          refine S_mv rfl rfl rfl ?_
          refine S_call _ rfl rfl (bod rfl) (fun w hs => m2 _ _ _ (by first | exact hs.rowRd 0 rfl | exact hs.rowRd 1 rfl | exact hs.rowRd 2 rfl | exact hs.rowRd 3 rfl | exact hs.rowRd 4 rfl | exact hs.rowRd 5 rfl | exact hs.rowRd 6 rfl | exact hs.rowRd 7 rfl | exact hs.rowRd 8 rfl | exact hs.rowRd 9 rfl | exact hs.rowRd 10 rfl | exact hs.rowRd 11 rfl | exact hs.rowRd 12 rfl | exact hs.rowRd 13 rfl | exact Rd.st (by assumption) hs) (by first | exact hs.rowRd 0 rfl | exact hs.rowRd 1 rfl | exact hs.rowRd 2 rfl | exact hs.rowRd 3 rfl | exact hs.rowRd 4 rfl | exact hs.rowRd 5 rfl | exact hs.rowRd 6 rfl | exact hs.rowRd 7 rfl | exact hs.rowRd 8 rfl | exact hs.rowRd 9 rfl | exact hs.rowRd 10 rfl | exact hs.rowRd 11 rfl | exact hs.rowRd 12 rfl | exact hs.rowRd 13 rfl | exact Rd.st (by assumption) hs)) rfl rfl ?_
          rintro u N ⟨j2, hj2, hj3, rfl⟩
          refine S_as rfl rfl rfl ?_
          refine S_nil ?_
          refine X_blk ?_
          refine X_seq ?_
          refine T_region ?_
          refine S_mv rfl rfl rfl ?_
          refine S_val rfl rfl (Y_addN rfl rfl (nat_cast _) (nat_lit' _) (by omega)) ?_
          refine S_as rfl rfl rfl ?_
          refine S_nil ?_
          refine X_loop ?_
          refine ⟨(t + 1, (j2, u), (j1, u1)), ⟨by dsimp only; omega, ⟨hj2, hj3⟩, ⟨hj1, hj4⟩⟩, by dsimp only; omega, by dsimp only; rw [← hcu]; exact (by repeat (first | exact Env.sub_nil _ | (apply Env.sub_cons; rfl))), Emb.idx [0, 4, 3] rfl rfl⟩
      · obtain rfl : t = 8 := by omega
        rw [← hT] at hb1 ⊢
        rw [← hA] at ho1 ⊢
        refine T_seq ?_
        refine T_sr ?_
        refine S_mv rfl rfl rfl ?_
        refine S_val rfl rfl (Y_lss_f rfl rfl (by decide)) ?_
        refine S_nx ?_
        refine T_cond_false rfl ?_
        refine T_exit ?_
        refine X_seq_exit ?_
        refine X_loop_exit ?_
        refine X_blk_hit rfl ?_
        refine X_blk ?_
        refine X_seq ?_
        refine T_region ?_
        refine S_mv rfl rfl rfl ?_
        refine S_val rfl rfl (Y_sub rfl rfl (wi64 (by omega) (by omega))) ?_
        refine S_as rfl rfl rfl ?_
        refine S_nil ?_
        refine X_loop ?_
        exact ⟨(i, (jb, vb), (jo, vo)), ⟨by dsimp only; omega, ⟨hb1, hb2⟩, ⟨ho1, ho2⟩⟩, by dsimp only; omega, (by repeat (first | exact Env.sub_nil _ | (apply Env.sub_cons; rfl))), Emb.refl _⟩
end Go.Proofs.YtjolmphkmfbpbaaDoor
/- A number of 128 bits, divided by one of 64. -/
namespace Go.Proofs.YtjolmphkmfbpbaaDoor
open Go.RowKit
set_option maxRecDepth 20000
set_option maxHeartbeats 4000000
/-- A fact that isn't to be looked at by the way. -/
structure Hid (p : Prop) : Prop where
  out : p
/-- n1 and n0 are the divisor's halves; u, v: what is divided, v its lower half digit. -/
structure Half (u v n1 n0 : Nat) : Prop where
  h1 : 2147483648 ≤ n1 ∧ n1 < 4294967296
  h0 : n0 < 4294967296
  hv : v < 4294967296
  hu : u < n1 * 4294967296 + n0
theorem Half.high {u v n1 n0 q r : Nat} (h : Half u v n1 n0) (hr : u = q * n1 + r) (hc : 4294967296 ≤ q ∨ 4294967296 * r + v < q * n0) : (u * 4294967296 + v) / (n1 * 4294967296 + n0) < q := by
  obtain ⟨h1, h0, hv, hu⟩ := h
  rw [Nat.div_lt_iff_lt_mul (by omega)]
  rcases hc with hc | hc
  · have : 4294967296 * (n1 * 4294967296 + n0) ≤ q * (n1 * 4294967296 + n0) := Nat.mul_le_mul_right _ hc
    omega
  · rw [Nat.mul_add, ← Nat.mul_assoc, hr, Nat.add_mul]
    omega
theorem Half.low {u v n1 n0 q r : Nat} (_h : Half u v n1 n0) (hr : u = q * n1 + r) (hc : q * n0 ≤ 4294967296 * r + v) : q * (n1 * 4294967296 + n0) ≤ u * 4294967296 + v := by
  rw [Nat.mul_add, ← Nat.mul_assoc, hr, Nat.add_mul]
  omega
theorem Half.end_ {u v n1 n0 q r : Nat} (h : Half u v n1 n0) (hr : u = q * n1 + r) (hq : (u * 4294967296 + v) / (n1 * 4294967296 + n0) ≤ q) (hc : q * n0 ≤ 4294967296 * r + v) : q = (u * 4294967296 + v) / (n1 * 4294967296 + n0) := by
  have h1 := h.low hr hc
  have hy : 0 < n1 * 4294967296 + n0 := by have := h.h1; omega
  have := (Nat.le_div_iff_mul_le hy).2 h1
  omega
theorem Half.start {u v n1 n0 : Nat} (h : Half u v n1 n0) : (u * 4294967296 + v) / (n1 * 4294967296 + n0) ≤ u / n1 ∧ u / n1 ≤ 4294967297 := by
  obtain ⟨h1, h0, hv, hu⟩ := h
  constructor
  · rw [← Nat.lt_succ_iff, Nat.div_lt_iff_lt_mul (by omega)]
    have h2 := Nat.div_add_mod u n1
    have h3 := Nat.mod_lt u (show 0 < n1 by omega)
    have h4 : (u + 1) * 4294967296 ≤ (u / n1).succ * n1 * 4294967296 := by
      refine Nat.mul_le_mul_right _ ?_
      rw [Nat.succ_mul, Nat.mul_comm]
      omega
    rw [Nat.mul_add, ← Nat.mul_assoc]
    omega
  · have : u / n1 < 4294967298 := by
      rw [Nat.div_lt_iff_lt_mul (by omega)]
      omega
    omega
theorem Half.lt {u v n1 n0 : Nat} (h : Half u v n1 n0) : (u * 4294967296 + v) / (n1 * 4294967296 + n0) < 4294967296 := by
  obtain ⟨h1, h0, hv, hu⟩ := h
  rw [Nat.div_lt_iff_lt_mul (by omega)]
  omega
theorem bitLen_norm (y : Nat) (h0 : y ≠ 0) (h : y < 18446744073709551616) : bitLen y ≤ 64 ∧ 9223372036854775808 ≤ y * 2 ^ (64 - bitLen y) ∧ y * 2 ^ (64 - bitLen y) < 18446744073709551616 := by
  have h1 := bitLen_le64 y h
  unfold bitLen at h1 ⊢
  rw [if_neg h0] at h1 ⊢
  have h2 := (Nat.le_log2 h0).1 (Nat.le_refl (Nat.log2 y))
  have h3 := (Nat.log2_lt h0).1 (Nat.lt_succ_self (Nat.log2 y))
  refine ⟨h1, ?_, ?_⟩
  · have := Nat.mul_le_mul_right (2 ^ (64 - (Nat.log2 y + 1))) h2
    rw [← Nat.pow_add, show Nat.log2 y + (64 - (Nat.log2 y + 1)) = 63 by omega] at this
    exact this
  · have := (Nat.mul_lt_mul_right (Nat.pow_pos (n := 64 - (Nat.log2 y + 1)) (show 0 < 2 by omega))).2 h3
    rw [← Nat.pow_add, show (Nat.log2 y).succ + (64 - (Nat.log2 y + 1)) = 64 by omega] at this
    exact this
theorem lz64_any (x : Nat) (hx : x < 18446744073709551616) (w : World) : Fn Tryd.prog 82 #[.int .u64 x] w fun v N => v = .int .i64 ((64 - bitLen x : Nat) : Int) ∧ N = [] := by
  have hl := bitLen_le64 x hx
  refine Fn_of (args := [.int .u64 x]) Tryd.func82 rfl Tryd.ntmps82 Tryd.results82 (by simp) ?_
  refine T_sr ?_
  refine S_as rfl rfl rfl ?_
  refine S_nx ?_
  refine T_sr ?_
  refine S_mv rfl rfl rfl ?_
  refine S_callV rfl rfl (bod rfl) (fun w hs => len64_any x hx _) rfl rfl ?_
  refine S_val rfl rfl (Y_subN rfl rfl (nat_lit' _) (nat_cast _) (by assumption) (Nat.le_of_ble_eq_true rfl)) ?_
  refine S_as rfl rfl rfl ?_
  refine S_nx ?_
  refine T_ret ?_
  ((first | refine X_fin_ret ?_ | refine X_fin ?_); exact ⟨[_], [], .cons (.tmp rfl) .nil, Emb.nil _, rfl, rfl⟩)
/-- What is divided, shifted up. -/
theorem shift_up (hi lo s : Nat) (hs : s ≤ 64) (hlo : lo < 18446744073709551616) (hh : hi * 2 ^ s < 18446744073709551616) :
    (hi * 2 ^ s % 18446744073709551616 ||| lo / 2 ^ (64 - s)) = hi * 2 ^ s + lo / 2 ^ (64 - s) ∧ (hi * 2 ^ s + lo / 2 ^ (64 - s)) * 18446744073709551616 + lo * 2 ^ s % 18446744073709551616 = (hi * 18446744073709551616 + lo) * 2 ^ s := by
  have e : (18446744073709551616 : Nat) = 2 ^ (64 - s) * 2 ^ s := by rw [← Nat.pow_add, show 64 - s + s = 64 by omega]
  have hl : lo / 2 ^ (64 - s) < 2 ^ s := Nat.div_lt_of_lt_mul (by rw [← e]; exact hlo)
  constructor
  · rw [Nat.mod_eq_of_lt hh, Nat.mul_comm hi, Nat.two_pow_add_eq_or_of_lt hl]
  · have h1 : lo * 2 ^ s % 18446744073709551616 = lo % 2 ^ (64 - s) * 2 ^ s := by rw [e, Nat.mul_mod_mul_right]
    have h2 := Nat.div_add_mod lo (2 ^ (64 - s))
    rw [h1, Nat.add_mul, Nat.add_mul, Nat.mul_right_comm]
    have h3 : lo / 2 ^ (64 - s) * 18446744073709551616 = (2 ^ (64 - s) * (lo / 2 ^ (64 - s))) * 2 ^ s := by
      rw [e, ← Nat.mul_assoc, Nat.mul_comm (lo / 2 ^ (64 - s))]
    rw [h3, Nat.add_assoc, ← Nat.add_mul, h2]
theorem recomb {U V R1 u1 u0 A D : Nat} (hV : V = u1 * 4294967296 + u0) (hR : R1 = U * 4294967296 + u1 - A) (hA : A ≤ U * 4294967296 + u1) (hD : D ≤ R1 * 4294967296 + u0) :
    U * 18446744073709551616 + V = (R1 * 4294967296 + u0 - D) + (A * 4294967296 + D) := by omega
theorem sub_mod {X D B : Nat} (h : D ≤ X) (hb : X - D < B) : (X % B + (B - D % B)) % B = X - D := by
  have hB : 0 < B := by omega
  have h1 := Nat.mod_lt D hB
  obtain ⟨Z, rfl⟩ : ∃ Z, X = Z + D := ⟨X - D, by omega⟩
  rw [Nat.add_sub_cancel] at hb ⊢
  have h2 : ((Z + D) % B + (B - D % B)) % B = (Z + D + (B - D % B)) % B := by rw [Nat.mod_add_mod]
  have h3 : Z + D + (B - D % B) = Z + (D / B + 1) * B := by
    have := Nat.div_add_mod D B
    rw [Nat.add_mul, Nat.one_mul, Nat.mul_comm (D / B)]
    omega
  rw [h2, h3, Nat.add_mul_mod_self_right, Nat.mod_eq_of_lt hb]
theorem div64_any (hi lo y : Nat) (hy : y < 18446744073709551616) (hlo : lo < 18446744073709551616) (hh : hi < y) (w : World) :
    Fn Tryd.prog 73 #[.int .u64 hi, .int .u64 lo, .int .u64 y] w fun v N => v = .tuple #[.int .u64 (((hi * 18446744073709551616 + lo) / y : Nat) : Int), .int .u64 (((hi * 18446744073709551616 + lo) % y : Nat) : Int)] ∧ N = [] := by
  by_cases h0 : hi = 0
  · subst h0
    rw [Nat.zero_mul, Nat.zero_add]
    refine Fn_of (args := [.int .u64 (0 : Nat), .int .u64 lo, .int .u64 y]) Tryd.func73 rfl Tryd.ntmps73 Tryd.results73 (by simp) ?_
    refine T_sr ?_
    refine S_as rfl rfl rfl ?_
    refine S_as rfl rfl rfl ?_
    refine S_nx ?_
    refine T_seq ?_
    refine T_sr ?_
    refine S_mv rfl rfl rfl ?_
    refine S_val rfl rfl (Y_eql_f rfl rfl (by omega)) ?_
    refine S_nx ?_
    refine T_cond_false rfl ?_
    refine T_skip ?_
    refine X_seq ?_
    refine T_seq ?_
    refine T_sr ?_
    refine S_mv rfl rfl rfl ?_
    refine S_mv rfl rfl rfl ?_
    refine S_val rfl rfl (Y_leq_f rfl rfl (by omega)) ?_
    refine S_nx ?_
    refine T_cond_false rfl ?_
    refine T_skip ?_
    refine X_seq ?_
    refine T_seq ?_
    refine T_sr ?_
    refine S_mv rfl rfl rfl ?_
    refine S_val rfl rfl (Y_eql_t rfl rfl (by decide)) ?_
    refine S_nx ?_
    refine T_cond_true rfl ?_
    refine T_seq ?_
    refine T_draw (by kernel_rfl) (by kernel_rfl) rfl ?_
    refine D0_val rfl rfl rfl (Y_move rfl) ?_
    refine D0_val rfl rfl rfl (Y_move rfl) ?_
    refine D0_val rfl rfl rfl (Y_quoN rfl rfl (nat_cast _) (nat_cast _) (by omega) (by first | with_reducible exact xi64 (by omega) | with_reducible exact x64 (by omega) | with_reducible exact x8 (by omega) | with_reducible exact x32 (by omega))) ?_
    refine D0_val rfl rfl rfl (Y_move rfl) ?_
    refine D0_val rfl rfl rfl (Y_move rfl) ?_
    refine D0_val rfl rfl rfl (Y_remN rfl rfl (nat_cast _) (nat_cast _) (by omega)) ?_
    refine D0_val rfl rfl rfl (Y_assign rfl) ?_
    refine D0_val rfl rfl rfl (Y_assign rfl) ?_
    refine D0_nil ?_
    refine X_seq ?_
    refine T_ret ?_
    refine X_seq_ret ?_
    ((first | refine X_fin_ret ?_ | refine X_fin ?_); exact ⟨[_, _], [], .cons (.tmp rfl) (.cons (.tmp rfl) .nil), Emb.nil _, rfl, rfl⟩)
  · obtain ⟨hbl, hy1, hy2⟩ := bitLen_norm y (by omega) hy
    obtain ⟨s, hs⟩ : ∃ s, s = 64 - bitLen y := ⟨_, rfl⟩
    rw [← hs] at hy1 hy2
    have hs64 : s ≤ 64 := by omega
    have hlz := fun w => lz64_any y hy w
    rw [← hs] at hlz
    have hP : 0 < 2 ^ s := Nat.pow_pos (by omega)
    have hhs : hi * 2 ^ s < 18446744073709551616 := Nat.lt_of_le_of_lt (Nat.mul_le_mul_right _ (Nat.le_of_lt hh)) hy2
    obtain ⟨hor, hU⟩ := shift_up hi lo s hs64 hlo hhs
    have hlos : lo / 2 ^ (64 - s) < 18446744073709551616 := Nat.lt_of_le_of_lt (Nat.div_le_self _ _) hlo
    have hym : y * 2 ^ s % 18446744073709551616 = y * 2 ^ s := Nat.mod_eq_of_lt hy2
    obtain ⟨Y, hY⟩ : ∃ Y, Y = y * 2 ^ s := ⟨_, rfl⟩
    obtain ⟨U, hUe⟩ : ∃ U, U = hi * 2 ^ s + lo / 2 ^ (64 - s) := ⟨_, rfl⟩
    obtain ⟨V, hV⟩ : ∃ V, V = lo * 2 ^ s % 18446744073709551616 := ⟨_, rfl⟩
    have hVl : V < 18446744073709551616 := by rw [hV]; exact Nat.mod_lt _ (by omega)
    have hres : (hi * 18446744073709551616 + lo) / y = (U * 18446744073709551616 + V) / Y ∧ (hi * 18446744073709551616 + lo) % y = (U * 18446744073709551616 + V) % Y / 2 ^ s := by
      rw [hUe, hV, hU, hY, Nat.mul_div_mul_right _ _ hP, Nat.mul_mod_mul_right, Nat.mul_div_cancel _ hP]
      exact ⟨rfl, rfl⟩
    rw [hres.1, hres.2]
    have hUY : U < Y := by
      have h1 : U * 18446744073709551616 + V < Y * 18446744073709551616 := by
        rw [hUe, hV, hU, hY, Nat.mul_right_comm]
        refine (Nat.mul_lt_mul_right hP).2 ?_
        have : (hi + 1) * 18446744073709551616 ≤ y * 18446744073709551616 := Nat.mul_le_mul_right _ hh
        omega
      omega
    obtain ⟨n1, hn1⟩ : ∃ n1, n1 = Y / 2 ^ 32 := ⟨_, rfl⟩
    obtain ⟨n0, hn0⟩ : ∃ n0, n0 = Y % 4294967296 := ⟨_, rfl⟩
    obtain ⟨u1, hu1⟩ : ∃ u1, u1 = V / 2 ^ 32 := ⟨_, rfl⟩
    obtain ⟨u0, hu0⟩ : ∃ u0, u0 = V % 4294967296 := ⟨_, rfl⟩
    have hYn : Y = n1 * 4294967296 + n0 := by omega
    have hY1 : 9223372036854775808 ≤ Y ∧ Y < 18446744073709551616 := by rw [hY]; exact ⟨hy1, hy2⟩
    have hVn : V = u1 * 4294967296 + u0 := by omega
    have hH1 : Half U u1 n1 n0 := ⟨by omega, by omega, by omega, by omega⟩
    obtain ⟨q1s, hq1s⟩ : ∃ q, (U * 4294967296 + u1) / (n1 * 4294967296 + n0) = q := ⟨_, rfl⟩
    have hst1 := hH1.start
    have hlt1 := hH1.lt
    rw [hq1s] at hst1 hlt1
    obtain ⟨R1, hR1⟩ : ∃ R, R = U * 4294967296 + u1 - q1s * Y := ⟨_, rfl⟩
    have hdm1 : q1s * Y ≤ U * 4294967296 + u1 ∧ R1 < Y := by
      have h1 := Nat.div_add_mod (U * 4294967296 + u1) Y
      have h2 := Nat.mod_lt (U * 4294967296 + u1) (show 0 < Y by omega)
      rw [hYn, hq1s, ← hYn, Nat.mul_comm] at h1
      omega
    have hH2 : Half R1 u0 n1 n0 := ⟨by omega, by omega, by omega, by omega⟩
    obtain ⟨q0s, hq0s⟩ : ∃ q, (R1 * 4294967296 + u0) / (n1 * 4294967296 + n0) = q := ⟨_, rfl⟩
    have hst2 := hH2.start
    have hlt2 := hH2.lt
    rw [hq0s] at hst2 hlt2
    have hdm2 : q0s * Y ≤ R1 * 4294967296 + u0 ∧ R1 * 4294967296 + u0 - q0s * Y < Y := by
      have h1 := Nat.div_add_mod (R1 * 4294967296 + u0) Y
      have h2 := Nat.mod_lt (R1 * 4294967296 + u0) (show 0 < Y by omega)
      rw [hYn, hq0s, ← hYn, Nat.mul_comm] at h1
      omega
    have hd1 := Nat.div_mul_le_self U n1
    have hd2 := Nat.div_mul_le_self R1 n1
    have hr01 : U = U / n1 * n1 + (U - U / n1 * n1) := by omega
    have hr02 : R1 = R1 / n1 * n1 + (R1 - R1 / n1 * n1) := by omega
    have hr11 : U - U / n1 * n1 < 4294967296 := by
      have h1 := Nat.div_add_mod U n1
      have h3 := hH1.h1
      have h2 := Nat.mod_lt U (show 0 < n1 by omega)
      rw [Nat.mul_comm] at h1
      omega
    have hr12 : R1 - R1 / n1 * n1 < 4294967296 := by
      have h1 := Nat.div_add_mod R1 n1
      have h3 := hH1.h1
      have h2 := Nat.mod_lt R1 (show 0 < n1 by omega)
      rw [Nat.mul_comm] at h1
      omega
    have hb3 := hH1.hv
    have hb4 := hH2.hv
    have hre1 : (U * 4294967296 % 18446744073709551616 + u1 + (18446744073709551616 - q1s * Y % 18446744073709551616)) % 18446744073709551616 = R1 := by
      rw [← Nat.mod_eq_of_lt (show U * 4294967296 % 18446744073709551616 + u1 < 18446744073709551616 by omega)]
      have h5 := Nat.lt_trans hdm1.2 hY1.2
      rw [hR1] at h5
      rw [show (U * 4294967296 % 18446744073709551616 + u1) % 18446744073709551616 = (U * 4294967296 + u1) % 18446744073709551616 from Nat.mod_add_mod _ _ _, hR1]
      exact sub_mod hdm1.1 h5
    have hre2 : (R1 * 4294967296 % 18446744073709551616 + u0 + (18446744073709551616 - q0s * Y % 18446744073709551616)) % 18446744073709551616 = R1 * 4294967296 + u0 - q0s * Y := by
      rw [← Nat.mod_eq_of_lt (show R1 * 4294967296 % 18446744073709551616 + u0 < 18446744073709551616 by omega)]
      rw [show (R1 * 4294967296 % 18446744073709551616 + u0) % 18446744073709551616 = (R1 * 4294967296 + u0) % 18446744073709551616 from Nat.mod_add_mod _ _ _]
      exact sub_mod hdm2.1 (Nat.lt_trans hdm2.2 hY1.2)
    have hall : U * 18446744073709551616 + V = (R1 * 4294967296 + u0 - q0s * Y) + (q1s * 4294967296 + q0s) * Y := by
      have e1 : q1s * 4294967296 * Y = q1s * Y * 4294967296 := Nat.mul_right_comm _ _ _
      rw [Nat.add_mul, e1]
      exact recomb hVn hR1 hdm1.1 hdm2.1
    have hf1 : (U * 18446744073709551616 + V) / Y = q1s * 4294967296 + q0s := by
      rw [hall, Nat.add_mul_div_right _ _ (by omega), Nat.div_eq_of_lt hdm2.2, Nat.zero_add]
    have hf2 : (U * 18446744073709551616 + V) % Y = R1 * 4294967296 + u0 - q0s * Y := by
      rw [hall, Nat.add_mul_mod_self_right, Nat.mod_eq_of_lt hdm2.2]
    rw [hf1, hf2, ← hre2]
    have P1 := Hid.mk (show ((U * 4294967296 + u1) / (n1 * 4294967296 + n0) = q1s) ∧ (q1s ≤ U / n1 ∧ U / n1 ≤ 4294967297) ∧ (U = U / n1 * n1 + (U - U / n1 * n1)) ∧ U - U / n1 * n1 < 4294967296 from ⟨hq1s, hst1, hr01, hr11⟩)
    have P2 := Hid.mk (show ((R1 * 4294967296 + u0) / (n1 * 4294967296 + n0) = q0s) ∧ (q0s ≤ R1 / n1 ∧ R1 / n1 ≤ 4294967297) ∧ (R1 = R1 / n1 * n1 + (R1 - R1 / n1 * n1)) ∧ R1 - R1 / n1 * n1 < 4294967296 from ⟨hq0s, hst2, hr02, hr12⟩)
    have hUl : U < 18446744073709551616 := by omega
    have mu1 : U / n1 * n1 < 2 ^ 64 := by omega
    have mu2 : R1 / n1 * n1 < 2 ^ 64 := by omega
    rw [← hre1] at mu2 hd2
    have pre1 : (hi * 2 ^ s % 18446744073709551616 ||| lo / 2 ^ (64 - s)) = U := by rw [hor, hUe]
    have pre2 : y * 2 ^ s % 18446744073709551616 = Y := by rw [hym, hY]
    have q1 : (hi * 2 ^ s % 18446744073709551616 ||| lo / 2 ^ (64 - s)) < 18446744073709551616 := by rw [pre1]; omega
    have q2 : y * 2 ^ s % 18446744073709551616 / 2 ^ 32 ≠ 0 := by rw [pre2]; omega
    have q3 : (hi * 2 ^ s % 18446744073709551616 ||| lo / 2 ^ (64 - s)) / (y * 2 ^ s % 18446744073709551616 / 2 ^ 32) * (y * 2 ^ s % 18446744073709551616 / 2 ^ 32) < 2 ^ 64 := by rw [pre1, pre2, ← hn1]; exact mu1
    have q4 : (hi * 2 ^ s % 18446744073709551616 ||| lo / 2 ^ (64 - s)) / (y * 2 ^ s % 18446744073709551616 / 2 ^ 32) * (y * 2 ^ s % 18446744073709551616 / 2 ^ 32) ≤ (hi * 2 ^ s % 18446744073709551616 ||| lo / 2 ^ (64 - s)) := by rw [pre1, pre2, ← hn1]; exact hd1
    have hn1p : n1 ≠ 0 := by have := hH1.h1; omega
    obtain ⟨hb1, hb2⟩ : n1 < 4294967296 ∧ n0 < 4294967296 := ⟨hH1.h1.2, hH1.h0⟩
    have P0 := Hid.mk (And.intro pre1 (And.intro pre2 (And.intro hn1 (And.intro hn0 (And.intro hV (And.intro hu1 hu0))))))
    have hyp : y ≠ 0 := by omega
    have hh' : ¬ y ≤ hi := by omega
    clear hall hf1 hf2 hre2 hdm1 hdm2 hr01 hr02 hr11 hr12 hq1s hq0s hst1 hst2 hd1 mu1 hR1 hVn hY1 hYn hUY hres hV hu1 hu0 hn1 hn0 hUe hY hhs hor hU hym hP hh hVl pre1 pre2 hs
    clear hy1 hy2
    refine Fn_of (args := [.int .u64 hi, .int .u64 lo, .int .u64 y]) Tryd.func73 rfl Tryd.ntmps73 Tryd.results73 (by simp) ?_
    refine T_sr ?_
    refine S_as rfl rfl rfl ?_
    refine S_as rfl rfl rfl ?_
    refine S_nx ?_
    refine T_seq ?_
    refine T_sr ?_
    refine S_mv rfl rfl rfl ?_
    refine S_val rfl rfl (Y_eql_f rfl rfl (by omega)) ?_
    refine S_nx ?_
    refine T_cond_false rfl ?_
    refine T_skip ?_
    refine X_seq ?_
    refine T_seq ?_
    refine T_sr ?_
    refine S_mv rfl rfl rfl ?_
    refine S_mv rfl rfl rfl ?_
    refine S_val rfl rfl (Y_leq_f rfl rfl (by omega)) ?_
    refine S_nx ?_
    refine T_cond_false rfl ?_
    refine T_skip ?_
    refine X_seq ?_
    refine T_seq ?_
    refine T_sr ?_
    refine S_mv rfl rfl rfl ?_
    refine S_val rfl rfl (Y_eql_f rfl rfl (by omega)) ?_
    refine S_nx ?_
    refine T_cond_false rfl ?_
    refine T_skip ?_
    refine X_seq ?_
    refine T_sr ?_
    refine S_mv rfl rfl rfl ?_
    refine S_callV rfl rfl (bod rfl) (fun w hs => hlz _) rfl rfl ?_
    refine S_val rfl rfl (Y_conv (und rfl) (und rfl) rfl (wu64 (by omega) (by omega))) ?_
    refine S_as rfl rfl rfl ?_
    refine S_nx ?_
    refine T_sr ?_
    refine S_mv rfl rfl rfl ?_
    refine S_mv rfl rfl rfl ?_
    refine S_val rfl rfl (Y_shlN rfl rfl (nat_cast _) (nat_cast _) rfl pw64) ?_
    refine S_as rfl rfl rfl ?_
    refine S_nx ?_
    refine T_sr ?_
    refine S_mv rfl rfl rfl ?_
    refine S_val rfl rfl (Y_shrN rfl rfl (nat_cast _) (nat_lit' _) (by simp only [IntKind.bits]; omega)) ?_
    refine S_as rfl rfl rfl ?_
    refine S_nx ?_
    refine T_sr ?_
    refine S_mv rfl rfl rfl ?_
    refine S_val rfl rfl (Y_mask32 rfl rfl (nat_cast _) (by omega)) ?_
    refine S_as rfl rfl rfl ?_
    refine S_nx ?_
    refine T_sr ?_
    refine S_mv rfl rfl rfl ?_
    refine S_mv rfl rfl rfl ?_
    refine S_val rfl rfl (Y_shlN rfl rfl (nat_cast _) (nat_cast _) rfl pw64) ?_
    refine S_mv rfl rfl rfl ?_
    refine S_mv rfl rfl rfl ?_
    refine S_val rfl rfl (Y_subU rfl rfl (nat_lit' _) (nat_cast _) rfl (by assumption) (by simp only [IntKind.bits]; omega)) ?_
    refine S_val rfl rfl (Y_shrN rfl rfl (nat_cast _) (nat_cast _) (by simp only [IntKind.bits]; assumption)) ?_
    refine S_val rfl rfl (Y_or rfl rfl (nat_cast _) (nat_cast _) rfl (by simp only [IntKind.bits]; omega) (by simp only [IntKind.bits]; assumption)) ?_
    refine S_as rfl rfl rfl ?_
    refine S_nx ?_
    refine T_sr ?_
    refine S_mv rfl rfl rfl ?_
    refine S_mv rfl rfl rfl ?_
    refine S_val rfl rfl (Y_shlN rfl rfl (nat_cast _) (nat_cast _) rfl pw64) ?_
    refine S_as rfl rfl rfl ?_
    refine S_nx ?_
    refine T_sr ?_
    refine S_mv rfl rfl rfl ?_
    refine S_val rfl rfl (Y_shrN rfl rfl (nat_cast _) (nat_lit' _) (by simp only [IntKind.bits]; omega)) ?_
    refine S_as rfl rfl rfl ?_
    refine S_nx ?_
    refine T_sr ?_
    refine S_mv rfl rfl rfl ?_
    refine S_val rfl rfl (Y_mask32 rfl rfl (nat_cast _) (by omega)) ?_
    refine S_as rfl rfl rfl ?_
    refine S_nx ?_
    refine T_sr ?_
    refine S_mv rfl rfl rfl ?_
    refine S_mv rfl rfl rfl ?_
    refine S_val rfl rfl (Y_quoN rfl rfl (nat_cast _) (nat_cast _) (by omega) (by first | with_reducible exact xi64 (by omega) | with_reducible exact x64 (by omega) | with_reducible exact x8 (by omega) | with_reducible exact x32 (by omega))) ?_
    refine S_as rfl rfl rfl ?_
    refine S_nx ?_
    refine T_sr ?_
    refine S_mv rfl rfl rfl ?_
    refine S_mv rfl rfl rfl ?_
    refine S_mv rfl rfl rfl ?_
    refine S_val rfl rfl (Y_mulU rfl rfl (nat_cast _) (nat_cast _) rfl (by simp only [IntKind.bits]; assumption)) ?_
    refine S_val rfl rfl (Y_subU rfl rfl (nat_cast _) (nat_cast _) rfl (by assumption) (by simp only [IntKind.bits]; assumption)) ?_
    refine S_as rfl rfl rfl ?_
    refine S_nx ?_
    refine T_seq ?_
    refine T_block ?_
    obtain ⟨pre1, pre2, hn1, hn0, hV, hu1, hu0⟩ := P0.out
    rw [pre1, pre2, ← hn1, ← hn0, ← hV, ← hu1, ← hu0]
    clear q1 q2 q3 q4 pre1 pre2 hn1 hn0 hV hu1 hu0 P0 hlz hlo hy hyp hh' h0 hbl hs64 hlos
    refine T_loop (α := Nat × Nat) (fun a => q1s ≤ a.1 ∧ a.1 ≤ 4294967297 ∧ U = a.1 * n1 + a.2 ∧ a.2 < 4294967296)
      (fun a => [(2, .int .u64 Y), (8, .int .u64 s), (9, .int .u64 n1), (10, .int .u64 n0), (11, .int .u64 U), (13, .int .u64 u1), (14, .int .u64 u0), (15, .int .u64 a.1), (16, .int .u64 a.2)])
      (fun a => []) (fun a => a.1) (U / n1, U - U / n1 * n1) ⟨P1.out.2.1.1, P1.out.2.1.2, P1.out.2.2.1, P1.out.2.2.2⟩ (by repeat (first | exact Env.sub_nil _ | (apply Env.sub_cons; rfl))) [] rfl ?_
    rintro ⟨q, r⟩ ⟨hq1, hq2, hq3, hq4⟩
    dsimp only at hq1 hq2 hq3 hq4 ⊢
    have P3 := Hid.mk hq3
    clear hq3
    by_cases c1 : 4294967296 ≤ q
    · have hlt := hH1.high P3.out (.inl c1)
      rw [P1.out.1] at hlt
      have hqm : (q - 1) * n1 + n1 = q * n1 := by rw [← Nat.succ_mul]; congr 1; omega
      by_cases c3 : 4294967296 ≤ r + n1
      · have hpe : q - 1 = q1s := by
          rw [← P1.out.1]
          refine hH1.end_ (r := r + n1) (by have h3 := P3.out; omega) (by rw [P1.out.1]; omega) ?_
          have : (q - 1) * n0 ≤ 4294967296 * 4294967295 := Nat.mul_le_mul (by omega) (by omega)
          omega
        rw [← hpe] at hre1 mu2 hd2 hlt1 ⊢
        refine T_seq ?_
        refine T_sr ?_
        refine S_mv rfl rfl rfl ?_
        refine S_val rfl rfl (Y_geq_t rfl rfl (by omega)) ?_
        refine S_mv rfl rfl rfl ?_
        refine S_skip rfl rfl ?_
        refine S_skip rfl rfl ?_
        refine S_skip rfl rfl ?_
        refine S_skip rfl rfl ?_
        refine S_skip rfl rfl ?_
        refine S_skip rfl rfl ?_
        refine S_skip rfl rfl ?_
        refine S_skip rfl rfl ?_
        refine S_val rfl rfl (Y_pick_t rfl rfl) ?_
        refine S_nx ?_
        refine T_cond_true rfl ?_
        refine T_skip ?_
        refine X_seq ?_
        refine T_block ?_
        refine T_sr ?_
        refine S_mv rfl rfl rfl ?_
        refine S_val rfl rfl (Y_subU rfl rfl (nat_cast _) (nat_lit' _) rfl (by omega) (by simp only [IntKind.bits]; omega)) ?_
        refine S_as rfl rfl rfl ?_
        refine S_nx ?_
        refine T_sr ?_
        refine S_mv rfl rfl rfl ?_
        refine S_mv rfl rfl rfl ?_
        refine S_val rfl rfl (Y_addU rfl rfl (nat_cast _) (nat_cast _) rfl (by simp only [IntKind.bits]; omega)) ?_
        refine S_as rfl rfl rfl ?_
        refine S_nx ?_
        refine T_sr ?_
        refine S_mv rfl rfl rfl ?_
        refine S_val rfl rfl (Y_geq_t rfl rfl (by omega)) ?_
        refine S_nx ?_
        refine T_cond_true rfl ?_
        refine T_exit ?_
        refine X_blk_miss rfl ?_
        refine X_loop_exit ?_
        refine X_blk_hit rfl ?_
        refine X_seq ?_
        refine T_sr ?_
        refine S_mv rfl rfl rfl ?_
        refine S_val rfl rfl (Y_mul64 rfl rfl (nat_cast _) (nat_lit' _)) ?_
        refine S_mv rfl rfl rfl ?_
        refine S_val rfl rfl (Y_addU rfl rfl (nat_cast _) (nat_cast _) rfl (by simp only [IntKind.bits]; omega)) ?_
        refine S_mv rfl rfl rfl ?_
        refine S_mv rfl rfl rfl ?_
        refine S_val rfl rfl (Y_mul64 rfl rfl (nat_cast _) (nat_cast _)) ?_
        refine S_val rfl rfl (Y_sub64 rfl rfl (nat_cast _) (nat_cast _) (by omega)) ?_
        refine S_as rfl rfl rfl ?_
        refine S_nx ?_
        refine T_sr ?_
        refine S_mv rfl rfl rfl ?_
        refine S_mv rfl rfl rfl ?_
        refine S_val rfl rfl (Y_quoN rfl rfl (nat_cast _) (nat_cast _) (by omega) (by first | with_reducible exact xi64 (by omega) | with_reducible exact x64 (by omega) | with_reducible exact x8 (by omega) | with_reducible exact x32 (by omega))) ?_
        refine S_as rfl rfl rfl ?_
        refine S_nx ?_
        refine T_sr ?_
        refine S_mv rfl rfl rfl ?_
        refine S_mv rfl rfl rfl ?_
        refine S_mv rfl rfl rfl ?_
        refine S_val rfl rfl (Y_mulU rfl rfl (nat_cast _) (nat_cast _) rfl (by simp only [IntKind.bits]; assumption)) ?_
        refine S_val rfl rfl (Y_subU rfl rfl (nat_cast _) (nat_cast _) rfl (by assumption) (by simp only [IntKind.bits]; omega)) ?_
        refine S_as rfl rfl rfl ?_
        refine S_nx ?_
        refine T_seq ?_
        refine T_block ?_
        rw [hre1]
        clear P1 P3 hq1 hq2 hq4 hre1 mu2 hd2 hH1 hUl
        first | clear hlt c3 hqn c2 hqm | clear hlt c3 hqm | clear hqn c2
        try clear c1 hpe
        refine T_loop (α := Nat × Nat) (fun a => q0s ≤ a.1 ∧ a.1 ≤ 4294967297 ∧ R1 = a.1 * n1 + a.2 ∧ a.2 < 4294967296)
          (fun a => [(2, .int .u64 Y), (8, .int .u64 s), (9, .int .u64 n1), (10, .int .u64 n0), (13, .int .u64 u1), (14, .int .u64 u0), (15, .int .u64 (q - 1 : Nat)), (16, .int .u64 a.2), (17, .int .u64 R1), (18, .int .u64 a.1)])
          (fun a => []) (fun a => a.1) (R1 / n1, R1 - R1 / n1 * n1) ⟨P2.out.2.1.1, P2.out.2.1.2, P2.out.2.2.1, P2.out.2.2.2⟩ (by repeat (first | exact Env.sub_nil _ | (apply Env.sub_cons; rfl))) [] rfl ?_
        rintro ⟨q, r⟩ ⟨hq1, hq2, hq3, hq4⟩
        dsimp only at hq1 hq2 hq3 hq4 ⊢
        have P3 := Hid.mk hq3
        clear hq3
        by_cases c1 : 4294967296 ≤ q
        · have hlt := hH2.high P3.out (.inl c1)
          rw [P2.out.1] at hlt
          have hqm : (q - 1) * n1 + n1 = q * n1 := by rw [← Nat.succ_mul]; congr 1; omega
          by_cases c3 : 4294967296 ≤ r + n1
          · have hpe : q - 1 = q0s := by
              rw [← P2.out.1]
              refine hH2.end_ (r := r + n1) (by have h3 := P3.out; omega) (by rw [P2.out.1]; omega) ?_
              have : (q - 1) * n0 ≤ 4294967296 * 4294967295 := Nat.mul_le_mul (by omega) (by omega)
              omega
            rw [← hpe]
            refine T_seq ?_
            refine T_sr ?_
            refine S_mv rfl rfl rfl ?_
            refine S_val rfl rfl (Y_geq_t rfl rfl (by omega)) ?_
            refine S_mv rfl rfl rfl ?_
            refine S_skip rfl rfl ?_
            refine S_skip rfl rfl ?_
            refine S_skip rfl rfl ?_
            refine S_skip rfl rfl ?_
            refine S_skip rfl rfl ?_
            refine S_skip rfl rfl ?_
            refine S_skip rfl rfl ?_
            refine S_skip rfl rfl ?_
            refine S_val rfl rfl (Y_pick_t rfl rfl) ?_
            refine S_nx ?_
            refine T_cond_true rfl ?_
            refine T_skip ?_
            refine X_seq ?_
            refine T_block ?_
            refine T_sr ?_
            refine S_mv rfl rfl rfl ?_
            refine S_val rfl rfl (Y_subU rfl rfl (nat_cast _) (nat_lit' _) rfl (by omega) (by simp only [IntKind.bits]; omega)) ?_
            refine S_as rfl rfl rfl ?_
            refine S_nx ?_
            refine T_sr ?_
            refine S_mv rfl rfl rfl ?_
            refine S_mv rfl rfl rfl ?_
            refine S_val rfl rfl (Y_addU rfl rfl (nat_cast _) (nat_cast _) rfl (by simp only [IntKind.bits]; omega)) ?_
            refine S_as rfl rfl rfl ?_
            refine S_nx ?_
            refine T_sr ?_
            refine S_mv rfl rfl rfl ?_
            refine S_val rfl rfl (Y_geq_t rfl rfl (by omega)) ?_
            refine S_nx ?_
            refine T_cond_true rfl ?_
            refine T_exit ?_
            refine X_blk_miss rfl ?_
            refine X_loop_exit ?_
            refine X_blk_hit rfl ?_
            refine X_seq ?_
            refine T_sr ?_
            refine S_mv rfl rfl rfl ?_
            refine S_val rfl rfl (Y_mulU rfl rfl (nat_cast _) (nat_lit' _) rfl (by simp only [IntKind.bits]; omega)) ?_
            refine S_mv rfl rfl rfl ?_
            refine S_val rfl rfl (Y_addU rfl rfl (nat_cast _) (nat_cast _) rfl (by simp only [IntKind.bits]; omega)) ?_
            refine S_mv rfl rfl rfl ?_
            refine S_val rfl rfl (Y_mul64 rfl rfl (nat_cast _) (nat_lit' _)) ?_
            refine S_mv rfl rfl rfl ?_
            refine S_val rfl rfl (Y_addU rfl rfl (nat_cast _) (nat_cast _) rfl (by simp only [IntKind.bits]; omega)) ?_
            refine S_mv rfl rfl rfl ?_
            refine S_mv rfl rfl rfl ?_
            refine S_val rfl rfl (Y_mul64 rfl rfl (nat_cast _) (nat_cast _)) ?_
            refine S_val rfl rfl (Y_sub64 rfl rfl (nat_cast _) (nat_cast _) (by omega)) ?_
            refine S_mv rfl rfl rfl ?_
            refine S_val rfl rfl (Y_shrN rfl rfl (nat_cast _) (nat_cast _) (by simp only [IntKind.bits]; omega)) ?_
            refine S_as rfl rfl rfl ?_
            refine S_as rfl rfl rfl ?_
            refine S_nx ?_
            refine T_ret ?_
            ((first | refine X_fin_ret ?_ | refine X_fin ?_); exact ⟨[_, _], [], .cons (.tmp rfl) (.cons (.tmp rfl) .nil), Emb.nil _, rfl, rfl⟩)
          · refine T_seq ?_
            refine T_sr ?_
            refine S_mv rfl rfl rfl ?_
            refine S_val rfl rfl (Y_geq_t rfl rfl (by omega)) ?_
            refine S_mv rfl rfl rfl ?_
            refine S_skip rfl rfl ?_
            refine S_skip rfl rfl ?_
            refine S_skip rfl rfl ?_
            refine S_skip rfl rfl ?_
            refine S_skip rfl rfl ?_
            refine S_skip rfl rfl ?_
            refine S_skip rfl rfl ?_
            refine S_skip rfl rfl ?_
            refine S_val rfl rfl (Y_pick_t rfl rfl) ?_
            refine S_nx ?_
            refine T_cond_true rfl ?_
            refine T_skip ?_
            refine X_seq ?_
            refine T_block ?_
            refine T_sr ?_
            refine S_mv rfl rfl rfl ?_
            refine S_val rfl rfl (Y_subU rfl rfl (nat_cast _) (nat_lit' _) rfl (by omega) (by simp only [IntKind.bits]; omega)) ?_
            refine S_as rfl rfl rfl ?_
            refine S_nx ?_
            refine T_sr ?_
            refine S_mv rfl rfl rfl ?_
            refine S_mv rfl rfl rfl ?_
            refine S_val rfl rfl (Y_addU rfl rfl (nat_cast _) (nat_cast _) rfl (by simp only [IntKind.bits]; omega)) ?_
            refine S_as rfl rfl rfl ?_
            refine S_nx ?_
            refine T_sr ?_
            refine S_mv rfl rfl rfl ?_
            refine S_val rfl rfl (Y_geq_f rfl rfl (by omega)) ?_
            refine S_nx ?_
            refine T_cond_false rfl ?_
            refine T_skip ?_
            refine X_blk ?_
            refine X_loop ?_
            exact ⟨(q - 1, r + n1), ⟨by dsimp only; omega, by dsimp only; omega, by have h3 := P3.out; dsimp only; omega, by dsimp only; omega⟩, by dsimp only; omega, (by repeat (first | exact Env.sub_nil _ | (apply Env.sub_cons; rfl))), [], rfl⟩
        · have hqn : q * n0 < 18446744073709551616 := Nat.lt_of_le_of_lt (Nat.mul_le_mul (show q ≤ 4294967295 by omega) (show n0 ≤ 4294967295 by omega)) (by omega)
          by_cases c2 : 4294967296 * r + u0 < q * n0
          · have hlt := hH2.high P3.out (.inr c2)
            rw [P2.out.1] at hlt
            have hqm : (q - 1) * n1 + n1 = q * n1 := by rw [← Nat.succ_mul]; congr 1; omega
            by_cases c3 : 4294967296 ≤ r + n1
            · have hpe : q - 1 = q0s := by
                rw [← P2.out.1]
                refine hH2.end_ (r := r + n1) (by have h3 := P3.out; omega) (by rw [P2.out.1]; omega) ?_
                have : (q - 1) * n0 ≤ 4294967296 * 4294967295 := Nat.mul_le_mul (by omega) (by omega)
                omega
              rw [← hpe]
              refine T_seq ?_
              refine T_sr ?_
              refine S_mv rfl rfl rfl ?_
              refine S_val rfl rfl (Y_geq_f rfl rfl (by omega)) ?_
              refine S_mv rfl rfl rfl ?_
              refine S_mv rfl rfl rfl ?_
              refine S_mv rfl rfl rfl ?_
              refine S_val rfl rfl (Y_mulU rfl rfl (nat_cast _) (nat_cast _) rfl (by simp only [IntKind.bits]; assumption)) ?_
              refine S_mv rfl rfl rfl ?_
              refine S_val rfl rfl (Y_mulU rfl rfl (nat_lit' _) (nat_cast _) rfl (by simp only [IntKind.bits]; omega)) ?_
              refine S_mv rfl rfl rfl ?_
              refine S_val rfl rfl (Y_addU rfl rfl (nat_cast _) (nat_cast _) rfl (by simp only [IntKind.bits]; omega)) ?_
              refine S_val rfl rfl (Y_gtr_t rfl rfl (by omega)) ?_
              refine S_val rfl rfl (Y_pick_f rfl rfl) ?_
              refine S_nx ?_
              refine T_cond_true rfl ?_
              refine T_skip ?_
              refine X_seq ?_
              refine T_block ?_
              refine T_sr ?_
              refine S_mv rfl rfl rfl ?_
              refine S_val rfl rfl (Y_subU rfl rfl (nat_cast _) (nat_lit' _) rfl (by omega) (by simp only [IntKind.bits]; omega)) ?_
              refine S_as rfl rfl rfl ?_
              refine S_nx ?_
              refine T_sr ?_
              refine S_mv rfl rfl rfl ?_
              refine S_mv rfl rfl rfl ?_
              refine S_val rfl rfl (Y_addU rfl rfl (nat_cast _) (nat_cast _) rfl (by simp only [IntKind.bits]; omega)) ?_
              refine S_as rfl rfl rfl ?_
              refine S_nx ?_
              refine T_sr ?_
              refine S_mv rfl rfl rfl ?_
              refine S_val rfl rfl (Y_geq_t rfl rfl (by omega)) ?_
              refine S_nx ?_
              refine T_cond_true rfl ?_
              refine T_exit ?_
              refine X_blk_miss rfl ?_
              refine X_loop_exit ?_
              refine X_blk_hit rfl ?_
              refine X_seq ?_
              refine T_sr ?_
              refine S_mv rfl rfl rfl ?_
              refine S_val rfl rfl (Y_mulU rfl rfl (nat_cast _) (nat_lit' _) rfl (by simp only [IntKind.bits]; omega)) ?_
              refine S_mv rfl rfl rfl ?_
              refine S_val rfl rfl (Y_addU rfl rfl (nat_cast _) (nat_cast _) rfl (by simp only [IntKind.bits]; omega)) ?_
              refine S_mv rfl rfl rfl ?_
              refine S_val rfl rfl (Y_mul64 rfl rfl (nat_cast _) (nat_lit' _)) ?_
              refine S_mv rfl rfl rfl ?_
              refine S_val rfl rfl (Y_addU rfl rfl (nat_cast _) (nat_cast _) rfl (by simp only [IntKind.bits]; omega)) ?_
              refine S_mv rfl rfl rfl ?_
              refine S_mv rfl rfl rfl ?_
              refine S_val rfl rfl (Y_mul64 rfl rfl (nat_cast _) (nat_cast _)) ?_
              refine S_val rfl rfl (Y_sub64 rfl rfl (nat_cast _) (nat_cast _) (by omega)) ?_
              refine S_mv rfl rfl rfl ?_
              refine S_val rfl rfl (Y_shrN rfl rfl (nat_cast _) (nat_cast _) (by simp only [IntKind.bits]; omega)) ?_
              refine S_as rfl rfl rfl ?_
              refine S_as rfl rfl rfl ?_
              refine S_nx ?_
              refine T_ret ?_
              ((first | refine X_fin_ret ?_ | refine X_fin ?_); exact ⟨[_, _], [], .cons (.tmp rfl) (.cons (.tmp rfl) .nil), Emb.nil _, rfl, rfl⟩)
            · refine T_seq ?_
              refine T_sr ?_
              refine S_mv rfl rfl rfl ?_
              refine S_val rfl rfl (Y_geq_f rfl rfl (by omega)) ?_
              refine S_mv rfl rfl rfl ?_
              refine S_mv rfl rfl rfl ?_
              refine S_mv rfl rfl rfl ?_
              refine S_val rfl rfl (Y_mulU rfl rfl (nat_cast _) (nat_cast _) rfl (by simp only [IntKind.bits]; assumption)) ?_
              refine S_mv rfl rfl rfl ?_
              refine S_val rfl rfl (Y_mulU rfl rfl (nat_lit' _) (nat_cast _) rfl (by simp only [IntKind.bits]; omega)) ?_
              refine S_mv rfl rfl rfl ?_
              refine S_val rfl rfl (Y_addU rfl rfl (nat_cast _) (nat_cast _) rfl (by simp only [IntKind.bits]; omega)) ?_
              refine S_val rfl rfl (Y_gtr_t rfl rfl (by omega)) ?_
              refine S_val rfl rfl (Y_pick_f rfl rfl) ?_
              refine S_nx ?_
              refine T_cond_true rfl ?_
              refine T_skip ?_
              refine X_seq ?_
              refine T_block ?_
              refine T_sr ?_
              refine S_mv rfl rfl rfl ?_
              refine S_val rfl rfl (Y_subU rfl rfl (nat_cast _) (nat_lit' _) rfl (by omega) (by simp only [IntKind.bits]; omega)) ?_
              refine S_as rfl rfl rfl ?_
              refine S_nx ?_
              refine T_sr ?_
              refine S_mv rfl rfl rfl ?_
              refine S_mv rfl rfl rfl ?_
              refine S_val rfl rfl (Y_addU rfl rfl (nat_cast _) (nat_cast _) rfl (by simp only [IntKind.bits]; omega)) ?_
              refine S_as rfl rfl rfl ?_
              refine S_nx ?_
              refine T_sr ?_
              refine S_mv rfl rfl rfl ?_
              refine S_val rfl rfl (Y_geq_f rfl rfl (by omega)) ?_
              refine S_nx ?_
              refine T_cond_false rfl ?_
              refine T_skip ?_
              refine X_blk ?_
              refine X_loop ?_
              exact ⟨(q - 1, r + n1), ⟨by dsimp only; omega, by dsimp only; omega, by have h3 := P3.out; dsimp only; omega, by dsimp only; omega⟩, by dsimp only; omega, (by repeat (first | exact Env.sub_nil _ | (apply Env.sub_cons; rfl))), [], rfl⟩
          · have hpe : q = q0s := by
              rw [← P2.out.1]
              exact hH2.end_ P3.out (by rw [P2.out.1]; omega) (by omega)
            rw [← hpe]
            refine T_seq ?_
            refine T_sr ?_
            refine S_mv rfl rfl rfl ?_
            refine S_val rfl rfl (Y_geq_f rfl rfl (by omega)) ?_
            refine S_mv rfl rfl rfl ?_
            refine S_mv rfl rfl rfl ?_
            refine S_mv rfl rfl rfl ?_
            refine S_val rfl rfl (Y_mulU rfl rfl (nat_cast _) (nat_cast _) rfl (by simp only [IntKind.bits]; assumption)) ?_
            refine S_mv rfl rfl rfl ?_
            refine S_val rfl rfl (Y_mulU rfl rfl (nat_lit' _) (nat_cast _) rfl (by simp only [IntKind.bits]; omega)) ?_
            refine S_mv rfl rfl rfl ?_
            refine S_val rfl rfl (Y_addU rfl rfl (nat_cast _) (nat_cast _) rfl (by simp only [IntKind.bits]; omega)) ?_
            refine S_val rfl rfl (Y_gtr_f rfl rfl (by omega)) ?_
            refine S_val rfl rfl (Y_pick_f rfl rfl) ?_
            refine S_nx ?_
            refine T_cond_false rfl ?_
            refine T_exit ?_
            refine X_seq_exit ?_
            refine X_loop_exit ?_
            refine X_blk_hit rfl ?_
            refine X_seq ?_
            refine T_sr ?_
            refine S_mv rfl rfl rfl ?_
            refine S_val rfl rfl (Y_mulU rfl rfl (nat_cast _) (nat_lit' _) rfl (by simp only [IntKind.bits]; omega)) ?_
            refine S_mv rfl rfl rfl ?_
            refine S_val rfl rfl (Y_addU rfl rfl (nat_cast _) (nat_cast _) rfl (by simp only [IntKind.bits]; omega)) ?_
            refine S_mv rfl rfl rfl ?_
            refine S_val rfl rfl (Y_mul64 rfl rfl (nat_cast _) (nat_lit' _)) ?_
            refine S_mv rfl rfl rfl ?_
            refine S_val rfl rfl (Y_addU rfl rfl (nat_cast _) (nat_cast _) rfl (by simp only [IntKind.bits]; omega)) ?_
            refine S_mv rfl rfl rfl ?_
            refine S_mv rfl rfl rfl ?_
            refine S_val rfl rfl (Y_mul64 rfl rfl (nat_cast _) (nat_cast _)) ?_
            refine S_val rfl rfl (Y_sub64 rfl rfl (nat_cast _) (nat_cast _) (by omega)) ?_
            refine S_mv rfl rfl rfl ?_
            refine S_val rfl rfl (Y_shrN rfl rfl (nat_cast _) (nat_cast _) (by simp only [IntKind.bits]; omega)) ?_
            refine S_as rfl rfl rfl ?_
            refine S_as rfl rfl rfl ?_
            refine S_nx ?_
            refine T_ret ?_
            ((first | refine X_fin_ret ?_ | refine X_fin ?_); exact ⟨[_, _], [], .cons (.tmp rfl) (.cons (.tmp rfl) .nil), Emb.nil _, rfl, rfl⟩)
      · refine T_seq ?_
        refine T_sr ?_
        refine S_mv rfl rfl rfl ?_
        refine S_val rfl rfl (Y_geq_t rfl rfl (by omega)) ?_
        refine S_mv rfl rfl rfl ?_
        refine S_skip rfl rfl ?_
        refine S_skip rfl rfl ?_
        refine S_skip rfl rfl ?_
        refine S_skip rfl rfl ?_
        refine S_skip rfl rfl ?_
        refine S_skip rfl rfl ?_
        refine S_skip rfl rfl ?_
        refine S_skip rfl rfl ?_
        refine S_val rfl rfl (Y_pick_t rfl rfl) ?_
        refine S_nx ?_
        refine T_cond_true rfl ?_
        refine T_skip ?_
        refine X_seq ?_
        refine T_block ?_
        refine T_sr ?_
        refine S_mv rfl rfl rfl ?_
        refine S_val rfl rfl (Y_subU rfl rfl (nat_cast _) (nat_lit' _) rfl (by omega) (by simp only [IntKind.bits]; omega)) ?_
        refine S_as rfl rfl rfl ?_
        refine S_nx ?_
        refine T_sr ?_
        refine S_mv rfl rfl rfl ?_
        refine S_mv rfl rfl rfl ?_
        refine S_val rfl rfl (Y_addU rfl rfl (nat_cast _) (nat_cast _) rfl (by simp only [IntKind.bits]; omega)) ?_
        refine S_as rfl rfl rfl ?_
        refine S_nx ?_
        refine T_sr ?_
        refine S_mv rfl rfl rfl ?_
        refine S_val rfl rfl (Y_geq_f rfl rfl (by omega)) ?_
        refine S_nx ?_
        refine T_cond_false rfl ?_
        refine T_skip ?_
        refine X_blk ?_
        refine X_loop ?_
        exact ⟨(q - 1, r + n1), ⟨by dsimp only; omega, by dsimp only; omega, by have h3 := P3.out; dsimp only; omega, by dsimp only; omega⟩, by dsimp only; omega, (by repeat (first | exact Env.sub_nil _ | (apply Env.sub_cons; rfl))), [], rfl⟩
    · have hqn : q * n0 < 18446744073709551616 := Nat.lt_of_le_of_lt (Nat.mul_le_mul (show q ≤ 4294967295 by omega) (show n0 ≤ 4294967295 by omega)) (by omega)
      by_cases c2 : 4294967296 * r + u1 < q * n0
      · have hlt := hH1.high P3.out (.inr c2)
        rw [P1.out.1] at hlt
        have hqm : (q - 1) * n1 + n1 = q * n1 := by rw [← Nat.succ_mul]; congr 1; omega
        by_cases c3 : 4294967296 ≤ r + n1
        · have hpe : q - 1 = q1s := by
            rw [← P1.out.1]
            refine hH1.end_ (r := r + n1) (by have h3 := P3.out; omega) (by rw [P1.out.1]; omega) ?_
            have : (q - 1) * n0 ≤ 4294967296 * 4294967295 := Nat.mul_le_mul (by omega) (by omega)
            omega
          rw [← hpe] at hre1 mu2 hd2 hlt1 ⊢
          refine T_seq ?_
          refine T_sr ?_
          refine S_mv rfl rfl rfl ?_
          refine S_val rfl rfl (Y_geq_f rfl rfl (by omega)) ?_
          refine S_mv rfl rfl rfl ?_
          refine S_mv rfl rfl rfl ?_
          refine S_mv rfl rfl rfl ?_
          refine S_val rfl rfl (Y_mulU rfl rfl (nat_cast _) (nat_cast _) rfl (by simp only [IntKind.bits]; assumption)) ?_
          refine S_mv rfl rfl rfl ?_
          refine S_val rfl rfl (Y_mulU rfl rfl (nat_lit' _) (nat_cast _) rfl (by simp only [IntKind.bits]; omega)) ?_
          refine S_mv rfl rfl rfl ?_
          refine S_val rfl rfl (Y_addU rfl rfl (nat_cast _) (nat_cast _) rfl (by simp only [IntKind.bits]; omega)) ?_
          refine S_val rfl rfl (Y_gtr_t rfl rfl (by omega)) ?_
          refine S_val rfl rfl (Y_pick_f rfl rfl) ?_
          refine S_nx ?_
          refine T_cond_true rfl ?_
          refine T_skip ?_
          refine X_seq ?_
          refine T_block ?_
          refine T_sr ?_
          refine S_mv rfl rfl rfl ?_
          refine S_val rfl rfl (Y_subU rfl rfl (nat_cast _) (nat_lit' _) rfl (by omega) (by simp only [IntKind.bits]; omega)) ?_
          refine S_as rfl rfl rfl ?_
          refine S_nx ?_
          refine T_sr ?_
          refine S_mv rfl rfl rfl ?_
          refine S_mv rfl rfl rfl ?_
          refine S_val rfl rfl (Y_addU rfl rfl (nat_cast _) (nat_cast _) rfl (by simp only [IntKind.bits]; omega)) ?_
          refine S_as rfl rfl rfl ?_
          refine S_nx ?_
          refine T_sr ?_
          refine S_mv rfl rfl rfl ?_
          refine S_val rfl rfl (Y_geq_t rfl rfl (by omega)) ?_
          refine S_nx ?_
          refine T_cond_true rfl ?_
          refine T_exit ?_
          refine X_blk_miss rfl ?_
          refine X_loop_exit ?_
          refine X_blk_hit rfl ?_
          refine X_seq ?_
          refine T_sr ?_
          refine S_mv rfl rfl rfl ?_
          refine S_val rfl rfl (Y_mul64 rfl rfl (nat_cast _) (nat_lit' _)) ?_
          refine S_mv rfl rfl rfl ?_
          refine S_val rfl rfl (Y_addU rfl rfl (nat_cast _) (nat_cast _) rfl (by simp only [IntKind.bits]; omega)) ?_
          refine S_mv rfl rfl rfl ?_
          refine S_mv rfl rfl rfl ?_
          refine S_val rfl rfl (Y_mul64 rfl rfl (nat_cast _) (nat_cast _)) ?_
          refine S_val rfl rfl (Y_sub64 rfl rfl (nat_cast _) (nat_cast _) (by omega)) ?_
          refine S_as rfl rfl rfl ?_
          refine S_nx ?_
          refine T_sr ?_
          refine S_mv rfl rfl rfl ?_
          refine S_mv rfl rfl rfl ?_
          refine S_val rfl rfl (Y_quoN rfl rfl (nat_cast _) (nat_cast _) (by omega) (by first | with_reducible exact xi64 (by omega) | with_reducible exact x64 (by omega) | with_reducible exact x8 (by omega) | with_reducible exact x32 (by omega))) ?_
          refine S_as rfl rfl rfl ?_
          refine S_nx ?_
          refine T_sr ?_
          refine S_mv rfl rfl rfl ?_
          refine S_mv rfl rfl rfl ?_
          refine S_mv rfl rfl rfl ?_
          refine S_val rfl rfl (Y_mulU rfl rfl (nat_cast _) (nat_cast _) rfl (by simp only [IntKind.bits]; assumption)) ?_
          refine S_val rfl rfl (Y_subU rfl rfl (nat_cast _) (nat_cast _) rfl (by assumption) (by simp only [IntKind.bits]; omega)) ?_
          refine S_as rfl rfl rfl ?_
          refine S_nx ?_
          refine T_seq ?_
          refine T_block ?_
          rw [hre1]
          clear P1 P3 hq1 hq2 hq4 hre1 mu2 hd2 hH1 hUl
          first | clear hlt c3 hqn c2 hqm | clear hlt c3 hqm | clear hqn c2
          try clear c1 hpe
          refine T_loop (α := Nat × Nat) (fun a => q0s ≤ a.1 ∧ a.1 ≤ 4294967297 ∧ R1 = a.1 * n1 + a.2 ∧ a.2 < 4294967296)
            (fun a => [(2, .int .u64 Y), (8, .int .u64 s), (9, .int .u64 n1), (10, .int .u64 n0), (13, .int .u64 u1), (14, .int .u64 u0), (15, .int .u64 (q - 1 : Nat)), (16, .int .u64 a.2), (17, .int .u64 R1), (18, .int .u64 a.1)])
            (fun a => []) (fun a => a.1) (R1 / n1, R1 - R1 / n1 * n1) ⟨P2.out.2.1.1, P2.out.2.1.2, P2.out.2.2.1, P2.out.2.2.2⟩ (by repeat (first | exact Env.sub_nil _ | (apply Env.sub_cons; rfl))) [] rfl ?_
          rintro ⟨q, r⟩ ⟨hq1, hq2, hq3, hq4⟩
          dsimp only at hq1 hq2 hq3 hq4 ⊢
          have P3 := Hid.mk hq3
          clear hq3
          by_cases c1 : 4294967296 ≤ q
          · have hlt := hH2.high P3.out (.inl c1)
            rw [P2.out.1] at hlt
            have hqm : (q - 1) * n1 + n1 = q * n1 := by rw [← Nat.succ_mul]; congr 1; omega
            by_cases c3 : 4294967296 ≤ r + n1
            · have hpe : q - 1 = q0s := by
                rw [← P2.out.1]
                refine hH2.end_ (r := r + n1) (by have h3 := P3.out; omega) (by rw [P2.out.1]; omega) ?_
                have : (q - 1) * n0 ≤ 4294967296 * 4294967295 := Nat.mul_le_mul (by omega) (by omega)
                omega
              rw [← hpe]
              refine T_seq ?_
              refine T_sr ?_
              refine S_mv rfl rfl rfl ?_
              refine S_val rfl rfl (Y_geq_t rfl rfl (by omega)) ?_
              refine S_mv rfl rfl rfl ?_
              refine S_skip rfl rfl ?_
              refine S_skip rfl rfl ?_
              refine S_skip rfl rfl ?_
              refine S_skip rfl rfl ?_
              refine S_skip rfl rfl ?_
              refine S_skip rfl rfl ?_
              refine S_skip rfl rfl ?_
              refine S_skip rfl rfl ?_
              refine S_val rfl rfl (Y_pick_t rfl rfl) ?_
              refine S_nx ?_
              refine T_cond_true rfl ?_
              refine T_skip ?_
              refine X_seq ?_
              refine T_block ?_
              refine T_sr ?_
              refine S_mv rfl rfl rfl ?_
              refine S_val rfl rfl (Y_subU rfl rfl (nat_cast _) (nat_lit' _) rfl (by omega) (by simp only [IntKind.bits]; omega)) ?_
              refine S_as rfl rfl rfl ?_
              refine S_nx ?_
              refine T_sr ?_
              refine S_mv rfl rfl rfl ?_
              refine S_mv rfl rfl rfl ?_
              refine S_val rfl rfl (Y_addU rfl rfl (nat_cast _) (nat_cast _) rfl (by simp only [IntKind.bits]; omega)) ?_
              refine S_as rfl rfl rfl ?_
              refine S_nx ?_
              refine T_sr ?_
              refine S_mv rfl rfl rfl ?_
              refine S_val rfl rfl (Y_geq_t rfl rfl (by omega)) ?_
              refine S_nx ?_
              refine T_cond_true rfl ?_
              refine T_exit ?_
              refine X_blk_miss rfl ?_
              refine X_loop_exit ?_
              refine X_blk_hit rfl ?_
              refine X_seq ?_
              refine T_sr ?_
              refine S_mv rfl rfl rfl ?_
              refine S_val rfl rfl (Y_mulU rfl rfl (nat_cast _) (nat_lit' _) rfl (by simp only [IntKind.bits]; omega)) ?_
              refine S_mv rfl rfl rfl ?_
              refine S_val rfl rfl (Y_addU rfl rfl (nat_cast _) (nat_cast _) rfl (by simp only [IntKind.bits]; omega)) ?_
              refine S_mv rfl rfl rfl ?_
              refine S_val rfl rfl (Y_mul64 rfl rfl (nat_cast _) (nat_lit' _)) ?_
              refine S_mv rfl rfl rfl ?_
              refine S_val rfl rfl (Y_addU rfl rfl (nat_cast _) (nat_cast _) rfl (by simp only [IntKind.bits]; omega)) ?_
              refine S_mv rfl rfl rfl ?_
              refine S_mv rfl rfl rfl ?_
              refine S_val rfl rfl (Y_mul64 rfl rfl (nat_cast _) (nat_cast _)) ?_
              refine S_val rfl rfl (Y_sub64 rfl rfl (nat_cast _) (nat_cast _) (by omega)) ?_
              refine S_mv rfl rfl rfl ?_
              refine S_val rfl rfl (Y_shrN rfl rfl (nat_cast _) (nat_cast _) (by simp only [IntKind.bits]; omega)) ?_
              refine S_as rfl rfl rfl ?_
              refine S_as rfl rfl rfl ?_
              refine S_nx ?_
              refine T_ret ?_
              ((first | refine X_fin_ret ?_ | refine X_fin ?_); exact ⟨[_, _], [], .cons (.tmp rfl) (.cons (.tmp rfl) .nil), Emb.nil _, rfl, rfl⟩)
            · refine T_seq ?_
              refine T_sr ?_
              refine S_mv rfl rfl rfl ?_
              refine S_val rfl rfl (Y_geq_t rfl rfl (by omega)) ?_
              refine S_mv rfl rfl rfl ?_
              refine S_skip rfl rfl ?_
              refine S_skip rfl rfl ?_
              refine S_skip rfl rfl ?_
              refine S_skip rfl rfl ?_
              refine S_skip rfl rfl ?_
              refine S_skip rfl rfl ?_
              refine S_skip rfl rfl ?_
              refine S_skip rfl rfl ?_
              refine S_val rfl rfl (Y_pick_t rfl rfl) ?_
              refine S_nx ?_
              refine T_cond_true rfl ?_
              refine T_skip ?_
              refine X_seq ?_
              refine T_block ?_
              refine T_sr ?_
              refine S_mv rfl rfl rfl ?_
              refine S_val rfl rfl (Y_subU rfl rfl (nat_cast _) (nat_lit' _) rfl (by omega) (by simp only [IntKind.bits]; omega)) ?_
              refine S_as rfl rfl rfl ?_
              refine S_nx ?_
              refine T_sr ?_
              refine S_mv rfl rfl rfl ?_
              refine S_mv rfl rfl rfl ?_
              refine S_val rfl rfl (Y_addU rfl rfl (nat_cast _) (nat_cast _) rfl (by simp only [IntKind.bits]; omega)) ?_
              refine S_as rfl rfl rfl ?_
              refine S_nx ?_
              refine T_sr ?_
              refine S_mv rfl rfl rfl ?_
              refine S_val rfl rfl (Y_geq_f rfl rfl (by omega)) ?_
              refine S_nx ?_
              refine T_cond_false rfl ?_
              refine T_skip ?_
              refine X_blk ?_
              refine X_loop ?_
              exact ⟨(q - 1, r + n1), ⟨by dsimp only; omega, by dsimp only; omega, by have h3 := P3.out; dsimp only; omega, by dsimp only; omega⟩, by dsimp only; omega, (by repeat (first | exact Env.sub_nil _ | (apply Env.sub_cons; rfl))), [], rfl⟩
          · have hqn : q * n0 < 18446744073709551616 := Nat.lt_of_le_of_lt (Nat.mul_le_mul (show q ≤ 4294967295 by omega) (show n0 ≤ 4294967295 by omega)) (by omega)
            by_cases c2 : 4294967296 * r + u0 < q * n0
            · have hlt := hH2.high P3.out (.inr c2)
              rw [P2.out.1] at hlt
              have hqm : (q - 1) * n1 + n1 = q * n1 := by rw [← Nat.succ_mul]; congr 1; omega
              by_cases c3 : 4294967296 ≤ r + n1
              · have hpe : q - 1 = q0s := by
                  rw [← P2.out.1]
                  refine hH2.end_ (r := r + n1) (by have h3 := P3.out; omega) (by rw [P2.out.1]; omega) ?_
                  have : (q - 1) * n0 ≤ 4294967296 * 4294967295 := Nat.mul_le_mul (by omega) (by omega)
                  omega
                rw [← hpe]
                refine T_seq ?_
                refine T_sr ?_
                refine S_mv rfl rfl rfl ?_
                refine S_val rfl rfl (Y_geq_f rfl rfl (by omega)) ?_
                refine S_mv rfl rfl rfl ?_
                refine S_mv rfl rfl rfl ?_
                refine S_mv rfl rfl rfl ?_
                refine S_val rfl rfl (Y_mulU rfl rfl (nat_cast _) (nat_cast _) rfl (by simp only [IntKind.bits]; assumption)) ?_
                refine S_mv rfl rfl rfl ?_
                refine S_val rfl rfl (Y_mulU rfl rfl (nat_lit' _) (nat_cast _) rfl (by simp only [IntKind.bits]; omega)) ?_
                refine S_mv rfl rfl rfl ?_
                refine S_val rfl rfl (Y_addU rfl rfl (nat_cast _) (nat_cast _) rfl (by simp only [IntKind.bits]; omega)) ?_
                refine S_val rfl rfl (Y_gtr_t rfl rfl (by omega)) ?_
                refine S_val rfl rfl (Y_pick_f rfl rfl) ?_
                refine S_nx ?_
                refine T_cond_true rfl ?_
                refine T_skip ?_
                refine X_seq ?_
                refine T_block ?_
                refine T_sr ?_
                refine S_mv rfl rfl rfl ?_
                refine S_val rfl rfl (Y_subU rfl rfl (nat_cast _) (nat_lit' _) rfl (by omega) (by simp only [IntKind.bits]; omega)) ?_
                refine S_as rfl rfl rfl ?_
                refine S_nx ?_
                refine T_sr ?_
                refine S_mv rfl rfl rfl ?_
                refine S_mv rfl rfl rfl ?_
                refine S_val rfl rfl (Y_addU rfl rfl (nat_cast _) (nat_cast _) rfl (by simp only [IntKind.bits]; omega)) ?_
                refine S_as rfl rfl rfl ?_
                refine S_nx ?_
                refine T_sr ?_
                refine S_mv rfl rfl rfl ?_
                refine S_val rfl rfl (Y_geq_t rfl rfl (by omega)) ?_
                refine S_nx ?_
                refine T_cond_true rfl ?_
                refine T_exit ?_
                refine X_blk_miss rfl ?_
                refine X_loop_exit ?_
                refine X_blk_hit rfl ?_
                refine X_seq ?_
                refine T_sr ?_
                refine S_mv rfl rfl rfl ?_
                refine S_val rfl rfl (Y_mulU rfl rfl (nat_cast _) (nat_lit' _) rfl (by simp only [IntKind.bits]; omega)) ?_
                refine S_mv rfl rfl rfl ?_
                refine S_val rfl rfl (Y_addU rfl rfl (nat_cast _) (nat_cast _) rfl (by simp only [IntKind.bits]; omega)) ?_
                refine S_mv rfl rfl rfl ?_
                refine S_val rfl rfl (Y_mul64 rfl rfl (nat_cast _) (nat_lit' _)) ?_
                refine S_mv rfl rfl rfl ?_
                refine S_val rfl rfl (Y_addU rfl rfl (nat_cast _) (nat_cast _) rfl (by simp only [IntKind.bits]; omega)) ?_
                refine S_mv rfl rfl rfl ?_
                refine S_mv rfl rfl rfl ?_
                refine S_val rfl rfl (Y_mul64 rfl rfl (nat_cast _) (nat_cast _)) ?_
                refine S_val rfl rfl (Y_sub64 rfl rfl (nat_cast _) (nat_cast _) (by omega)) ?_
                refine S_mv rfl rfl rfl ?_
                refine S_val rfl rfl (Y_shrN rfl rfl (nat_cast _) (nat_cast _) (by simp only [IntKind.bits]; omega)) ?_
                refine S_as rfl rfl rfl ?_
                refine S_as rfl rfl rfl ?_
                refine S_nx ?_
                refine T_ret ?_
                ((first | refine X_fin_ret ?_ | refine X_fin ?_); exact ⟨[_, _], [], .cons (.tmp rfl) (.cons (.tmp rfl) .nil), Emb.nil _, rfl, rfl⟩)
              · refine T_seq ?_
                refine T_sr ?_
                refine S_mv rfl rfl rfl ?_
                refine S_val rfl rfl (Y_geq_f rfl rfl (by omega)) ?_
                refine S_mv rfl rfl rfl ?_
                refine S_mv rfl rfl rfl ?_
                refine S_mv rfl rfl rfl ?_
                refine S_val rfl rfl (Y_mulU rfl rfl (nat_cast _) (nat_cast _) rfl (by simp only [IntKind.bits]; assumption)) ?_
                refine S_mv rfl rfl rfl ?_
                refine S_val rfl rfl (Y_mulU rfl rfl (nat_lit' _) (nat_cast _) rfl (by simp only [IntKind.bits]; omega)) ?_
                refine S_mv rfl rfl rfl ?_
                refine S_val rfl rfl (Y_addU rfl rfl (nat_cast _) (nat_cast _) rfl (by simp only [IntKind.bits]; omega)) ?_
                refine S_val rfl rfl (Y_gtr_t rfl rfl (by omega)) ?_
                refine S_val rfl rfl (Y_pick_f rfl rfl) ?_
                refine S_nx ?_
                refine T_cond_true rfl ?_
                refine T_skip ?_
                refine X_seq ?_
                refine T_block ?_
                refine T_sr ?_
                refine S_mv rfl rfl rfl ?_
                refine S_val rfl rfl (Y_subU rfl rfl (nat_cast _) (nat_lit' _) rfl (by omega) (by simp only [IntKind.bits]; omega)) ?_
                refine S_as rfl rfl rfl ?_
                refine S_nx ?_
                refine T_sr ?_
                refine S_mv rfl rfl rfl ?_
                refine S_mv rfl rfl rfl ?_
                refine S_val rfl rfl (Y_addU rfl rfl (nat_cast _) (nat_cast _) rfl (by simp only [IntKind.bits]; omega)) ?_
                refine S_as rfl rfl rfl ?_
                refine S_nx ?_
                refine T_sr ?_
                refine S_mv rfl rfl rfl ?_
                refine S_val rfl rfl (Y_geq_f rfl rfl (by omega)) ?_
                refine S_nx ?_
                refine T_cond_false rfl ?_
                refine T_skip ?_
                refine X_blk ?_
                refine X_loop ?_
                exact ⟨(q - 1, r + n1), ⟨by dsimp only; omega, by dsimp only; omega, by have h3 := P3.out; dsimp only; omega, by dsimp only; omega⟩, by dsimp only; omega, (by repeat (first | exact Env.sub_nil _ | (apply Env.sub_cons; rfl))), [], rfl⟩
            · have hpe : q = q0s := by
                rw [← P2.out.1]
                exact hH2.end_ P3.out (by rw [P2.out.1]; omega) (by omega)
              rw [← hpe]
              refine T_seq ?_
              refine T_sr ?_
              refine S_mv rfl rfl rfl ?_
              refine S_val rfl rfl (Y_geq_f rfl rfl (by omega)) ?_
              refine S_mv rfl rfl rfl ?_
              refine S_mv rfl rfl rfl ?_
              refine S_mv rfl rfl rfl ?_
              refine S_val rfl rfl (Y_mulU rfl rfl (nat_cast _) (nat_cast _) rfl (by simp only [IntKind.bits]; assumption)) ?_
              refine S_mv rfl rfl rfl ?_
              refine S_val rfl rfl (Y_mulU rfl rfl (nat_lit' _) (nat_cast _) rfl (by simp only [IntKind.bits]; omega)) ?_
              refine S_mv rfl rfl rfl ?_
              refine S_val rfl rfl (Y_addU rfl rfl (nat_cast _) (nat_cast _) rfl (by simp only [IntKind.bits]; omega)) ?_
              refine S_val rfl rfl (Y_gtr_f rfl rfl (by omega)) ?_
              refine S_val rfl rfl (Y_pick_f rfl rfl) ?_
              refine S_nx ?_
              refine T_cond_false rfl ?_
              refine T_exit ?_
              refine X_seq_exit ?_
              refine X_loop_exit ?_
              refine X_blk_hit rfl ?_
              refine X_seq ?_
              refine T_sr ?_
              refine S_mv rfl rfl rfl ?_
              refine S_val rfl rfl (Y_mulU rfl rfl (nat_cast _) (nat_lit' _) rfl (by simp only [IntKind.bits]; omega)) ?_
              refine S_mv rfl rfl rfl ?_
              refine S_val rfl rfl (Y_addU rfl rfl (nat_cast _) (nat_cast _) rfl (by simp only [IntKind.bits]; omega)) ?_
              refine S_mv rfl rfl rfl ?_
              refine S_val rfl rfl (Y_mul64 rfl rfl (nat_cast _) (nat_lit' _)) ?_
              refine S_mv rfl rfl rfl ?_
              refine S_val rfl rfl (Y_addU rfl rfl (nat_cast _) (nat_cast _) rfl (by simp only [IntKind.bits]; omega)) ?_
              refine S_mv rfl rfl rfl ?_
              refine S_mv rfl rfl rfl ?_
              refine S_val rfl rfl (Y_mul64 rfl rfl (nat_cast _) (nat_cast _)) ?_
              refine S_val rfl rfl (Y_sub64 rfl rfl (nat_cast _) (nat_cast _) (by omega)) ?_
              refine S_mv rfl rfl rfl ?_
              refine S_val rfl rfl (Y_shrN rfl rfl (nat_cast _) (nat_cast _) (by simp only [IntKind.bits]; omega)) ?_
              refine S_as rfl rfl rfl ?_
              refine S_as rfl rfl rfl ?_
              refine S_nx ?_
              refine T_ret ?_
              ((first | refine X_fin_ret ?_ | refine X_fin ?_); exact ⟨[_, _], [], .cons (.tmp rfl) (.cons (.tmp rfl) .nil), Emb.nil _, rfl, rfl⟩)
        · refine T_seq ?_
          refine T_sr ?_
          refine S_mv rfl rfl rfl ?_
          refine S_val rfl rfl (Y_geq_f rfl rfl (by omega)) ?_
          refine S_mv rfl rfl rfl ?_
          refine S_mv rfl rfl rfl ?_
          refine S_mv rfl rfl rfl ?_
          refine S_val rfl rfl (Y_mulU rfl rfl (nat_cast _) (nat_cast _) rfl (by simp only [IntKind.bits]; assumption)) ?_
          refine S_mv rfl rfl rfl ?_
          refine S_val rfl rfl (Y_mulU rfl rfl (nat_lit' _) (nat_cast _) rfl (by simp only [IntKind.bits]; omega)) ?_
          refine S_mv rfl rfl rfl ?_
          refine S_val rfl rfl (Y_addU rfl rfl (nat_cast _) (nat_cast _) rfl (by simp only [IntKind.bits]; omega)) ?_
          refine S_val rfl rfl (Y_gtr_t rfl rfl (by omega)) ?_
          refine S_val rfl rfl (Y_pick_f rfl rfl) ?_
          refine S_nx ?_
          refine T_cond_true rfl ?_
          refine T_skip ?_
          refine X_seq ?_
          refine T_block ?_
          refine T_sr ?_
          refine S_mv rfl rfl rfl ?_
          refine S_val rfl rfl (Y_subU rfl rfl (nat_cast _) (nat_lit' _) rfl (by omega) (by simp only [IntKind.bits]; omega)) ?_
          refine S_as rfl rfl rfl ?_
          refine S_nx ?_
          refine T_sr ?_
          refine S_mv rfl rfl rfl ?_
          refine S_mv rfl rfl rfl ?_
          refine S_val rfl rfl (Y_addU rfl rfl (nat_cast _) (nat_cast _) rfl (by simp only [IntKind.bits]; omega)) ?_
          refine S_as rfl rfl rfl ?_
          refine S_nx ?_
          refine T_sr ?_
          refine S_mv rfl rfl rfl ?_
          refine S_val rfl rfl (Y_geq_f rfl rfl (by omega)) ?_
          refine S_nx ?_
          refine T_cond_false rfl ?_
          refine T_skip ?_
          refine X_blk ?_
          refine X_loop ?_
          exact ⟨(q - 1, r + n1), ⟨by dsimp only; omega, by dsimp only; omega, by have h3 := P3.out; dsimp only; omega, by dsimp only; omega⟩, by dsimp only; omega, (by repeat (first | exact Env.sub_nil _ | (apply Env.sub_cons; rfl))), [], rfl⟩
      · have hpe : q = q1s := by
          rw [← P1.out.1]
          exact hH1.end_ P3.out (by rw [P1.out.1]; omega) (by omega)
        subst hpe
        refine T_seq ?_
        refine T_sr ?_
        refine S_mv rfl rfl rfl ?_
        refine S_val rfl rfl (Y_geq_f rfl rfl (by omega)) ?_
        refine S_mv rfl rfl rfl ?_
        refine S_mv rfl rfl rfl ?_
        refine S_mv rfl rfl rfl ?_
        refine S_val rfl rfl (Y_mulU rfl rfl (nat_cast _) (nat_cast _) rfl (by simp only [IntKind.bits]; assumption)) ?_
        refine S_mv rfl rfl rfl ?_
        refine S_val rfl rfl (Y_mulU rfl rfl (nat_lit' _) (nat_cast _) rfl (by simp only [IntKind.bits]; omega)) ?_
        refine S_mv rfl rfl rfl ?_
        refine S_val rfl rfl (Y_addU rfl rfl (nat_cast _) (nat_cast _) rfl (by simp only [IntKind.bits]; omega)) ?_
        refine S_val rfl rfl (Y_gtr_f rfl rfl (by omega)) ?_
        refine S_val rfl rfl (Y_pick_f rfl rfl) ?_
        refine S_nx ?_
        refine T_cond_false rfl ?_
        refine T_exit ?_
        refine X_seq_exit ?_
        refine X_loop_exit ?_
        refine X_blk_hit rfl ?_
        refine X_seq ?_
        refine T_sr ?_
        refine S_mv rfl rfl rfl ?_
        refine S_val rfl rfl (Y_mul64 rfl rfl (nat_cast _) (nat_lit' _)) ?_
        refine S_mv rfl rfl rfl ?_
        refine S_val rfl rfl (Y_addU rfl rfl (nat_cast _) (nat_cast _) rfl (by simp only [IntKind.bits]; omega)) ?_
        refine S_mv rfl rfl rfl ?_
        refine S_mv rfl rfl rfl ?_
        refine S_val rfl rfl (Y_mul64 rfl rfl (nat_cast _) (nat_cast _)) ?_
        refine S_val rfl rfl (Y_sub64 rfl rfl (nat_cast _) (nat_cast _) (by omega)) ?_
        refine S_as rfl rfl rfl ?_
        refine S_nx ?_
        refine T_sr ?_
        refine S_mv rfl rfl rfl ?_
        refine S_mv rfl rfl rfl ?_
        refine S_val rfl rfl (Y_quoN rfl rfl (nat_cast _) (nat_cast _) (by omega) (by first | with_reducible exact xi64 (by omega) | with_reducible exact x64 (by omega) | with_reducible exact x8 (by omega) | with_reducible exact x32 (by omega))) ?_
        refine S_as rfl rfl rfl ?_
        refine S_nx ?_
        refine T_sr ?_
        refine S_mv rfl rfl rfl ?_
        refine S_mv rfl rfl rfl ?_
        refine S_mv rfl rfl rfl ?_
        refine S_val rfl rfl (Y_mulU rfl rfl (nat_cast _) (nat_cast _) rfl (by simp only [IntKind.bits]; assumption)) ?_
        refine S_val rfl rfl (Y_subU rfl rfl (nat_cast _) (nat_cast _) rfl (by assumption) (by simp only [IntKind.bits]; omega)) ?_
        refine S_as rfl rfl rfl ?_
        refine S_nx ?_
        refine T_seq ?_
        refine T_block ?_
        rw [hre1]
        clear P1 P3 hq1 hq2 hq4 hre1 mu2 hd2 hH1 hUl
        first | clear hlt c3 hqn c2 hqm | clear hlt c3 hqm | clear hqn c2
        try clear c1 hpe
        refine T_loop (α := Nat × Nat) (fun a => q0s ≤ a.1 ∧ a.1 ≤ 4294967297 ∧ R1 = a.1 * n1 + a.2 ∧ a.2 < 4294967296)
          (fun a => [(2, .int .u64 Y), (8, .int .u64 s), (9, .int .u64 n1), (10, .int .u64 n0), (13, .int .u64 u1), (14, .int .u64 u0), (15, .int .u64 (q : Nat)), (16, .int .u64 a.2), (17, .int .u64 R1), (18, .int .u64 a.1)])
          (fun a => []) (fun a => a.1) (R1 / n1, R1 - R1 / n1 * n1) ⟨P2.out.2.1.1, P2.out.2.1.2, P2.out.2.2.1, P2.out.2.2.2⟩ (by repeat (first | exact Env.sub_nil _ | (apply Env.sub_cons; rfl))) [] rfl ?_
        rintro ⟨q, r⟩ ⟨hq1, hq2, hq3, hq4⟩
        dsimp only at hq1 hq2 hq3 hq4 ⊢
        have P3 := Hid.mk hq3
        clear hq3
        by_cases c1 : 4294967296 ≤ q
        · have hlt := hH2.high P3.out (.inl c1)
          rw [P2.out.1] at hlt
          have hqm : (q - 1) * n1 + n1 = q * n1 := by rw [← Nat.succ_mul]; congr 1; omega
          by_cases c3 : 4294967296 ≤ r + n1
          · have hpe : q - 1 = q0s := by
              rw [← P2.out.1]
              refine hH2.end_ (r := r + n1) (by have h3 := P3.out; omega) (by rw [P2.out.1]; omega) ?_
              have : (q - 1) * n0 ≤ 4294967296 * 4294967295 := Nat.mul_le_mul (by omega) (by omega)
              omega
            rw [← hpe]
            refine T_seq ?_
            refine T_sr ?_
            refine S_mv rfl rfl rfl ?_
            refine S_val rfl rfl (Y_geq_t rfl rfl (by omega)) ?_
            refine S_mv rfl rfl rfl ?_
            refine S_skip rfl rfl ?_
            refine S_skip rfl rfl ?_
            refine S_skip rfl rfl ?_
            refine S_skip rfl rfl ?_
            refine S_skip rfl rfl ?_
            refine S_skip rfl rfl ?_
            refine S_skip rfl rfl ?_
            refine S_skip rfl rfl ?_
            refine S_val rfl rfl (Y_pick_t rfl rfl) ?_
            refine S_nx ?_
            refine T_cond_true rfl ?_
            refine T_skip ?_
            refine X_seq ?_
            refine T_block ?_
            refine T_sr ?_
            refine S_mv rfl rfl rfl ?_
            refine S_val rfl rfl (Y_subU rfl rfl (nat_cast _) (nat_lit' _) rfl (by omega) (by simp only [IntKind.bits]; omega)) ?_
            refine S_as rfl rfl rfl ?_
            refine S_nx ?_
            refine T_sr ?_
            refine S_mv rfl rfl rfl ?_
            refine S_mv rfl rfl rfl ?_
            refine S_val rfl rfl (Y_addU rfl rfl (nat_cast _) (nat_cast _) rfl (by simp only [IntKind.bits]; omega)) ?_
            refine S_as rfl rfl rfl ?_
            refine S_nx ?_
            refine T_sr ?_
            refine S_mv rfl rfl rfl ?_
            refine S_val rfl rfl (Y_geq_t rfl rfl (by omega)) ?_
            refine S_nx ?_
            refine T_cond_true rfl ?_
            refine T_exit ?_
            refine X_blk_miss rfl ?_
            refine X_loop_exit ?_
            refine X_blk_hit rfl ?_
            refine X_seq ?_
            refine T_sr ?_
            refine S_mv rfl rfl rfl ?_
            refine S_val rfl rfl (Y_mulU rfl rfl (nat_cast _) (nat_lit' _) rfl (by simp only [IntKind.bits]; omega)) ?_
            refine S_mv rfl rfl rfl ?_
            refine S_val rfl rfl (Y_addU rfl rfl (nat_cast _) (nat_cast _) rfl (by simp only [IntKind.bits]; omega)) ?_
            refine S_mv rfl rfl rfl ?_
            refine S_val rfl rfl (Y_mul64 rfl rfl (nat_cast _) (nat_lit' _)) ?_
            refine S_mv rfl rfl rfl ?_
            refine S_val rfl rfl (Y_addU rfl rfl (nat_cast _) (nat_cast _) rfl (by simp only [IntKind.bits]; omega)) ?_
            refine S_mv rfl rfl rfl ?_
            refine S_mv rfl rfl rfl ?_
            refine S_val rfl rfl (Y_mul64 rfl rfl (nat_cast _) (nat_cast _)) ?_
            refine S_val rfl rfl (Y_sub64 rfl rfl (nat_cast _) (nat_cast _) (by omega)) ?_
            refine S_mv rfl rfl rfl ?_
            refine S_val rfl rfl (Y_shrN rfl rfl (nat_cast _) (nat_cast _) (by simp only [IntKind.bits]; omega)) ?_
            refine S_as rfl rfl rfl ?_
            refine S_as rfl rfl rfl ?_
            refine S_nx ?_
            refine T_ret ?_
            ((first | refine X_fin_ret ?_ | refine X_fin ?_); exact ⟨[_, _], [], .cons (.tmp rfl) (.cons (.tmp rfl) .nil), Emb.nil _, rfl, rfl⟩)
          · refine T_seq ?_
            refine T_sr ?_
            refine S_mv rfl rfl rfl ?_
            refine S_val rfl rfl (Y_geq_t rfl rfl (by omega)) ?_
            refine S_mv rfl rfl rfl ?_
            refine S_skip rfl rfl ?_
            refine S_skip rfl rfl ?_
            refine S_skip rfl rfl ?_
            refine S_skip rfl rfl ?_
            refine S_skip rfl rfl ?_
            refine S_skip rfl rfl ?_
            refine S_skip rfl rfl ?_
            refine S_skip rfl rfl ?_
            refine S_val rfl rfl (Y_pick_t rfl rfl) ?_
            refine S_nx ?_
            refine T_cond_true rfl ?_
            refine T_skip ?_
            refine X_seq ?_
            refine T_block ?_
            refine T_sr ?_
            refine S_mv rfl rfl rfl ?_
            refine S_val rfl rfl (Y_subU rfl rfl (nat_cast _) (nat_lit' _) rfl (by omega) (by simp only [IntKind.bits]; omega)) ?_
            refine S_as rfl rfl rfl ?_
            refine S_nx ?_
            refine T_sr ?_
            refine S_mv rfl rfl rfl ?_
            refine S_mv rfl rfl rfl ?_
            refine S_val rfl rfl (Y_addU rfl rfl (nat_cast _) (nat_cast _) rfl (by simp only [IntKind.bits]; omega)) ?_
            refine S_as rfl rfl rfl ?_
            refine S_nx ?_
            refine T_sr ?_
            refine S_mv rfl rfl rfl ?_
            refine S_val rfl rfl (Y_geq_f rfl rfl (by omega)) ?_
            refine S_nx ?_
            refine T_cond_false rfl ?_
            refine T_skip ?_
            refine X_blk ?_
            refine X_loop ?_
            exact ⟨(q - 1, r + n1), ⟨by dsimp only; omega, by dsimp only; omega, by have h3 := P3.out; dsimp only; omega, by dsimp only; omega⟩, by dsimp only; omega, (by repeat (first | exact Env.sub_nil _ | (apply Env.sub_cons; rfl))), [], rfl⟩
        · have hqn : q * n0 < 18446744073709551616 := Nat.lt_of_le_of_lt (Nat.mul_le_mul (show q ≤ 4294967295 by omega) (show n0 ≤ 4294967295 by omega)) (by omega)
          by_cases c2 : 4294967296 * r + u0 < q * n0
          · have hlt := hH2.high P3.out (.inr c2)
            rw [P2.out.1] at hlt
            have hqm : (q - 1) * n1 + n1 = q * n1 := by rw [← Nat.succ_mul]; congr 1; omega
            by_cases c3 : 4294967296 ≤ r + n1
            · have hpe : q - 1 = q0s := by
                rw [← P2.out.1]
                refine hH2.end_ (r := r + n1) (by have h3 := P3.out; omega) (by rw [P2.out.1]; omega) ?_
                have : (q - 1) * n0 ≤ 4294967296 * 4294967295 := Nat.mul_le_mul (by omega) (by omega)
                omega
              rw [← hpe]
              refine T_seq ?_
              refine T_sr ?_
              refine S_mv rfl rfl rfl ?_
              refine S_val rfl rfl (Y_geq_f rfl rfl (by omega)) ?_
              refine S_mv rfl rfl rfl ?_
              refine S_mv rfl rfl rfl ?_
              refine S_mv rfl rfl rfl ?_
              refine S_val rfl rfl (Y_mulU rfl rfl (nat_cast _) (nat_cast _) rfl (by simp only [IntKind.bits]; assumption)) ?_
              refine S_mv rfl rfl rfl ?_
              refine S_val rfl rfl (Y_mulU rfl rfl (nat_lit' _) (nat_cast _) rfl (by simp only [IntKind.bits]; omega)) ?_
              refine S_mv rfl rfl rfl ?_
              refine S_val rfl rfl (Y_addU rfl rfl (nat_cast _) (nat_cast _) rfl (by simp only [IntKind.bits]; omega)) ?_
              refine S_val rfl rfl (Y_gtr_t rfl rfl (by omega)) ?_
              refine S_val rfl rfl (Y_pick_f rfl rfl) ?_
              refine S_nx ?_
              refine T_cond_true rfl ?_
              refine T_skip ?_
              refine X_seq ?_
              refine T_block ?_
              refine T_sr ?_
              refine S_mv rfl rfl rfl ?_
              refine S_val rfl rfl (Y_subU rfl rfl (nat_cast _) (nat_lit' _) rfl (by omega) (by simp only [IntKind.bits]; omega)) ?_
              refine S_as rfl rfl rfl ?_
              refine S_nx ?_
              refine T_sr ?_
              refine S_mv rfl rfl rfl ?_
              refine S_mv rfl rfl rfl ?_
              refine S_val rfl rfl (Y_addU rfl rfl (nat_cast _) (nat_cast _) rfl (by simp only [IntKind.bits]; omega)) ?_
              refine S_as rfl rfl rfl ?_
              refine S_nx ?_
              refine T_sr ?_
              refine S_mv rfl rfl rfl ?_
              refine S_val rfl rfl (Y_geq_t rfl rfl (by omega)) ?_
              refine S_nx ?_
              refine T_cond_true rfl ?_
              refine T_exit ?_
              refine X_blk_miss rfl ?_
              refine X_loop_exit ?_
              refine X_blk_hit rfl ?_
              refine X_seq ?_
              refine T_sr ?_
              refine S_mv rfl rfl rfl ?_
              refine S_val rfl rfl (Y_mulU rfl rfl (nat_cast _) (nat_lit' _) rfl (by simp only [IntKind.bits]; omega)) ?_
              refine S_mv rfl rfl rfl ?_
              refine S_val rfl rfl (Y_addU rfl rfl (nat_cast _) (nat_cast _) rfl (by simp only [IntKind.bits]; omega)) ?_
              refine S_mv rfl rfl rfl ?_
              refine S_val rfl rfl (Y_mul64 rfl rfl (nat_cast _) (nat_lit' _)) ?_
              refine S_mv rfl rfl rfl ?_
              refine S_val rfl rfl (Y_addU rfl rfl (nat_cast _) (nat_cast _) rfl (by simp only [IntKind.bits]; omega)) ?_
              refine S_mv rfl rfl rfl ?_
              refine S_mv rfl rfl rfl ?_
              refine S_val rfl rfl (Y_mul64 rfl rfl (nat_cast _) (nat_cast _)) ?_
              refine S_val rfl rfl (Y_sub64 rfl rfl (nat_cast _) (nat_cast _) (by omega)) ?_
              refine S_mv rfl rfl rfl ?_
              refine S_val rfl rfl (Y_shrN rfl rfl (nat_cast _) (nat_cast _) (by simp only [IntKind.bits]; omega)) ?_
              refine S_as rfl rfl rfl ?_
              refine S_as rfl rfl rfl ?_
              refine S_nx ?_
              refine T_ret ?_
              ((first | refine X_fin_ret ?_ | refine X_fin ?_); exact ⟨[_, _], [], .cons (.tmp rfl) (.cons (.tmp rfl) .nil), Emb.nil _, rfl, rfl⟩)
            · refine T_seq ?_
              refine T_sr ?_
              refine S_mv rfl rfl rfl ?_
              refine S_val rfl rfl (Y_geq_f rfl rfl (by omega)) ?_
              refine S_mv rfl rfl rfl ?_
              refine S_mv rfl rfl rfl ?_
              refine S_mv rfl rfl rfl ?_
              refine S_val rfl rfl (Y_mulU rfl rfl (nat_cast _) (nat_cast _) rfl (by simp only [IntKind.bits]; assumption)) ?_
              refine S_mv rfl rfl rfl ?_
              refine S_val rfl rfl (Y_mulU rfl rfl (nat_lit' _) (nat_cast _) rfl (by simp only [IntKind.bits]; omega)) ?_
              refine S_mv rfl rfl rfl ?_
              refine S_val rfl rfl (Y_addU rfl rfl (nat_cast _) (nat_cast _) rfl (by simp only [IntKind.bits]; omega)) ?_
              refine S_val rfl rfl (Y_gtr_t rfl rfl (by omega)) ?_
              refine S_val rfl rfl (Y_pick_f rfl rfl) ?_
              refine S_nx ?_
              refine T_cond_true rfl ?_
              refine T_skip ?_
              refine X_seq ?_
              refine T_block ?_
              refine T_sr ?_
              refine S_mv rfl rfl rfl ?_
              refine S_val rfl rfl (Y_subU rfl rfl (nat_cast _) (nat_lit' _) rfl (by omega) (by simp only [IntKind.bits]; omega)) ?_
              refine S_as rfl rfl rfl ?_
              refine S_nx ?_
              refine T_sr ?_
              refine S_mv rfl rfl rfl ?_
              refine S_mv rfl rfl rfl ?_
              refine S_val rfl rfl (Y_addU rfl rfl (nat_cast _) (nat_cast _) rfl (by simp only [IntKind.bits]; omega)) ?_
              refine S_as rfl rfl rfl ?_
              refine S_nx ?_
              refine T_sr ?_
              refine S_mv rfl rfl rfl ?_
              refine S_val rfl rfl (Y_geq_f rfl rfl (by omega)) ?_
              refine S_nx ?_
              refine T_cond_false rfl ?_
              refine T_skip ?_
              refine X_blk ?_
              refine X_loop ?_
              exact ⟨(q - 1, r + n1), ⟨by dsimp only; omega, by dsimp only; omega, by have h3 := P3.out; dsimp only; omega, by dsimp only; omega⟩, by dsimp only; omega, (by repeat (first | exact Env.sub_nil _ | (apply Env.sub_cons; rfl))), [], rfl⟩
          · have hpe : q = q0s := by
              rw [← P2.out.1]
              exact hH2.end_ P3.out (by rw [P2.out.1]; omega) (by omega)
            rw [← hpe]
            refine T_seq ?_
            refine T_sr ?_
            refine S_mv rfl rfl rfl ?_
            refine S_val rfl rfl (Y_geq_f rfl rfl (by omega)) ?_
            refine S_mv rfl rfl rfl ?_
            refine S_mv rfl rfl rfl ?_
            refine S_mv rfl rfl rfl ?_
            refine S_val rfl rfl (Y_mulU rfl rfl (nat_cast _) (nat_cast _) rfl (by simp only [IntKind.bits]; assumption)) ?_
            refine S_mv rfl rfl rfl ?_
            refine S_val rfl rfl (Y_mulU rfl rfl (nat_lit' _) (nat_cast _) rfl (by simp only [IntKind.bits]; omega)) ?_
            refine S_mv rfl rfl rfl ?_
            refine S_val rfl rfl (Y_addU rfl rfl (nat_cast _) (nat_cast _) rfl (by simp only [IntKind.bits]; omega)) ?_
            refine S_val rfl rfl (Y_gtr_f rfl rfl (by omega)) ?_
            refine S_val rfl rfl (Y_pick_f rfl rfl) ?_
            refine S_nx ?_
            refine T_cond_false rfl ?_
            refine T_exit ?_
            refine X_seq_exit ?_
            refine X_loop_exit ?_
            refine X_blk_hit rfl ?_
            refine X_seq ?_
            refine T_sr ?_
            refine S_mv rfl rfl rfl ?_
            refine S_val rfl rfl (Y_mulU rfl rfl (nat_cast _) (nat_lit' _) rfl (by simp only [IntKind.bits]; omega)) ?_
            refine S_mv rfl rfl rfl ?_
            refine S_val rfl rfl (Y_addU rfl rfl (nat_cast _) (nat_cast _) rfl (by simp only [IntKind.bits]; omega)) ?_
            refine S_mv rfl rfl rfl ?_
            refine S_val rfl rfl (Y_mul64 rfl rfl (nat_cast _) (nat_lit' _)) ?_
            refine S_mv rfl rfl rfl ?_
            refine S_val rfl rfl (Y_addU rfl rfl (nat_cast _) (nat_cast _) rfl (by simp only [IntKind.bits]; omega)) ?_
            refine S_mv rfl rfl rfl ?_
            refine S_mv rfl rfl rfl ?_
            refine S_val rfl rfl (Y_mul64 rfl rfl (nat_cast _) (nat_cast _)) ?_
            refine S_val rfl rfl (Y_sub64 rfl rfl (nat_cast _) (nat_cast _) (by omega)) ?_
            refine S_mv rfl rfl rfl ?_
            refine S_val rfl rfl (Y_shrN rfl rfl (nat_cast _) (nat_cast _) (by simp only [IntKind.bits]; omega)) ?_
            refine S_as rfl rfl rfl ?_
            refine S_as rfl rfl rfl ?_
            refine S_nx ?_
            refine T_ret ?_
            ((first | refine X_fin_ret ?_ | refine X_fin ?_); exact ⟨[_, _], [], .cons (.tmp rfl) (.cons (.tmp rfl) .nil), Emb.nil _, rfl, rfl⟩)
end Go.Proofs.YtjolmphkmfbpbaaDoor
/- Whole products. -/
namespace Go.Proofs.YtjolmphkmfbpbaaDoor
open Go.RowKit
set_option maxRecDepth 10000
set_option maxHeartbeats 4000000
/-- A digit that is turned leaves a number below the same power. -/
theorem put_lt {b m x i d : Nat} (hx : x < b ^ m) (hi : i < m) (hd : d < b) : x - x / b ^ i % b * b ^ i + d * b ^ i < b ^ m := by
  have hb : 0 < b := by omega
  have hs := split_at b i x
  have hr : x % b ^ i < b ^ i := Nat.mod_lt _ (Nat.pow_pos hb)
  have hh : x / b ^ (i + 1) < b ^ (m - (i + 1)) := Nat.div_lt_of_lt_mul (by rw [← Nat.pow_add, show i + 1 + (m - (i + 1)) = m by omega]; exact hx)
  have hm : (x / b ^ (i + 1) + 1) * b ^ (i + 1) ≤ b ^ m := by
    have := Nat.mul_le_mul_right (b ^ (i + 1)) hh
    rwa [← Nat.pow_add, show m - (i + 1) + (i + 1) = m by omega] at this
  have h2 : d * b ^ i + b ^ i ≤ b ^ (i + 1) := by
    have := Nat.mul_le_mul_right (b ^ i) hd
    rw [Nat.succ_mul] at this
    rw [Nat.pow_succ, Nat.mul_comm (b ^ i)]
    exact this
  rw [Nat.add_mul, Nat.one_mul] at hm
  generalize x % b ^ i = r at *
  generalize x / b ^ i % b = c at *
  generalize x / b ^ (i + 1) = h at *
  omega
theorem product_any (x y : Nat) (hx : x < 2 ^ 256) (hy : y < 2 ^ 256) (w : World) : Fn Tryd.prog 35 #[W x, W y] w fun v N => v = .tuple #[W (x * y), W (x * y / 2 ^ 256)] ∧ N = [] := by
  refine Fn_of (args := [W x, W y]) Tryd.func35 rfl Tryd.ntmps35 Tryd.results35 (by simp) ?_
  refine T_sr ?_
  refine S_boxA rfl rfl rfl fun _ => ?_
  refine S_boxA rfl rfl rfl fun _ => ?_
  refine S_allocA (zer rfl) rfl rfl fun _ => ?_
  refine S_allocA (zer rfl) rfl rfl fun _ => ?_
  refine S_nx ?_
  refine T_sr ?_
  refine S_allocA (zer rfl) rfl rfl fun _ => ?_
  refine S_nx ?_
  refine T_seq ?_
  refine T_sr ?_
  refine S_mv rfl rfl rfl ?_
  refine S_nx ?_
  refine T_block ?_
  rename_i b0 b1 b2 b3 b4
  have hx4 : x < 18446744073709551616 ^ 4 := hx
  have hy4 : y < 18446744073709551616 ^ 4 := hy
  refine T_loop (α := Nat × Nat) (fun a => a.1 ≤ 4 ∧ a.2 = x % 18446744073709551616 ^ a.1 * y)
    (fun a => [(2, .pointer (some ⟨b0, 0, none⟩)), (3, .pointer (some ⟨b1, 0, none⟩)), (4, .pointer (some ⟨b2, 0, none⟩)), (5, .pointer (some ⟨b3, 0, none⟩)), (6, .pointer (some ⟨b4, 0, none⟩)), (13, .int .i64 a.1)])
    (fun a => [blk b0 (.cells (ints .u64 (dl 18446744073709551616 4 (x))) 50 (0, 0)), blk b1 (.cells (ints .u64 (dl 18446744073709551616 4 (y))) 50 (0, 0)), blk b2 (.cells (ints .u64 (List.replicate 4 0)) 50 (0, 0)), blk b3 (.cells (ints .u64 (List.replicate 4 0)) 50 (0, 0)), blk b4 (.cells (ints .u64 (dl 18446744073709551616 8 a.2)) 95 (0, 0))])
    (fun a => 4 - a.1) (0, 0) (by simp [Nat.mod_one]) (by repeat (first | exact Env.sub_nil _ | (apply Env.sub_cons; rfl))) [] rfl ?_
  rintro ⟨i, o⟩ ⟨hi, ho⟩
  dsimp only at hi ho ⊢
  by_cases h : i < 4
  · have hob : o < 18446744073709551616 ^ (i + 4) := by
      rw [ho, Nat.pow_add]
      exact Nat.mul_lt_mul'' (Nat.mod_lt _ (Nat.pow_pos (by omega))) hy4
    refine T_sr ?_
    refine S_val rfl rfl (Y_lss_t rfl rfl (by omega)) ?_
    refine S_nx ?_
    refine T_seq ?_
    refine T_cond_true rfl ?_
    refine T_skip ?_
    refine X_seq ?_
    refine T_seq ?_
    refine T_block ?_
    refine T_sr ?_
    refine S_mv rfl rfl rfl ?_
    refine S_as rfl rfl rfl ?_
    refine S_nx ?_
    refine T_sr ?_
    refine S_as rfl rfl rfl ?_
    refine S_nx ?_
    refine T_seq ?_
    refine T_sr ?_
    refine S_mv rfl rfl rfl ?_
    refine S_nx ?_
    refine T_block ?_
    refine T_loop (α := Nat × Nat × Nat) (fun a => a.1 ≤ 4 ∧ a.2.1 < 18446744073709551616 ∧ a.2.2 + a.2.1 * 18446744073709551616 ^ (i + a.1) = o + x / 18446744073709551616 ^ i % 18446744073709551616 * (y % 18446744073709551616 ^ a.1) * 18446744073709551616 ^ i ∧ a.2.2 < 18446744073709551616 ^ (i + 4))
      (fun a => [(2, .pointer (some ⟨b0, 0, none⟩)), (3, .pointer (some ⟨b1, 0, none⟩)), (4, .pointer (some ⟨b2, 0, none⟩)), (5, .pointer (some ⟨b3, 0, none⟩)), (6, .pointer (some ⟨b4, 0, none⟩)), (7, .int .i64 i), (8, .int .u64 a.2.1), (13, .int .i64 i), (16, .int .i64 a.1)])
      (fun a => [blk b0 (.cells (ints .u64 (dl 18446744073709551616 4 (x))) 50 (0, 0)), blk b1 (.cells (ints .u64 (dl 18446744073709551616 4 (y))) 50 (0, 0)), blk b2 (.cells (ints .u64 (List.replicate 4 0)) 50 (0, 0)), blk b3 (.cells (ints .u64 (List.replicate 4 0)) 50 (0, 0)), blk b4 (.cells (ints .u64 (dl 18446744073709551616 8 a.2.2)) 95 (0, 0))])
      (fun a => 4 - a.1) (0, 0, o) (by simpa [Nat.mod_one] using hob) (by repeat (first | exact Env.sub_nil _ | (apply Env.sub_cons; rfl))) [] rfl ?_
    rintro ⟨j, c, p⟩ ⟨hj, hc, hp, hpb⟩
    dsimp only at hj hc hp hpb ⊢
    have hxi := digit_lt x i
    have hyj := digit_lt y j
    have hpj := digit_lt p (i + j)
    have hxy : x / 18446744073709551616 ^ i % 18446744073709551616 * (y / 18446744073709551616 ^ j % 18446744073709551616) ≤ 18446744073709551615 * 18446744073709551615 := Nat.mul_le_mul (by omega) (by omega)
    by_cases h2 : j < 4
    · refine T_sr ?_
      refine S_val rfl rfl (Y_lss_t rfl rfl (by omega)) ?_
      refine S_nx ?_
      refine T_seq ?_
      refine T_cond_true rfl ?_
      refine T_skip ?_
      refine X_seq ?_
      refine T_seq ?_
      refine T_block ?_
      refine T_sr ?_
      refine S_mv rfl rfl rfl ?_
      refine S_as rfl rfl rfl ?_
      refine S_nx ?_
      refine T_seq ?_
      refine T_draw (by kernel_rfl) (by kernel_rfl) rfl ?_
      refine D0_val rfl rfl rfl (Y_move rfl) ?_
      refine D0_val rfl rfl rfl (Y_ixa (und rfl) (siz rfl) rfl rfl (nat_cast _) (by assumption)) ?_
      refine D0_valM rfl rfl rfl (Y_loadI 0 (und rfl) rfl rfl rfl (dl_get (by assumption))) ?_
      refine D0_val rfl rfl rfl (Y_move rfl) ?_
      refine D0_val rfl rfl rfl (Y_ixa (und rfl) (siz rfl) rfl rfl (nat_cast _) (by assumption)) ?_
      refine D0_valM rfl rfl rfl (Y_loadI 1 (und rfl) rfl rfl rfl (dl_get (by assumption))) ?_
      refine D0_callV rfl rfl (bod rfl) (fun w hs => mul64_any _ _ hxi hyj _) rfl rfl ?_
      refine D0_val rfl rfl rfl (Y_move rfl) ?_
      refine D0_val rfl rfl rfl (Y_extract rfl rfl) ?_
      refine D0_val rfl rfl rfl (Y_extract rfl rfl) ?_
      refine D0_val rfl rfl rfl (Y_assign rfl) ?_
      refine D0_val rfl rfl rfl (Y_assign rfl) ?_
      refine D0_nil ?_
      refine X_seq ?_
      refine T_sr ?_
      refine S_mv rfl rfl rfl ?_
      refine S_mv rfl rfl rfl ?_
      refine S_mv rfl rfl rfl ?_
      refine S_val rfl rfl (Y_addN rfl rfl (nat_cast _) (nat_cast _) (by omega)) ?_
      refine S_val rfl rfl (Y_ixa (und rfl) (siz rfl) rfl rfl (nat_cast _) (by omega)) ?_
      refine S_val rfl rfl (Y_loadI 4 (und rfl) rfl rfl rfl (dl_get (by omega))) ?_
      refine S_val rfl rfl (Y_ext rfl rfl fun w => add64 _ _ 0 (by omega) _) ?_
      refine S_mv rfl rfl rfl ?_
      refine S_val rfl rfl (Y_extract rfl rfl) ?_
      refine S_val rfl rfl (Y_extract rfl rfl) ?_
      refine S_as rfl rfl rfl ?_
      refine S_as rfl rfl rfl ?_
      refine S_nx ?_
      refine T_sr ?_
      refine S_mv rfl rfl rfl ?_
      refine S_mv rfl rfl rfl ?_
      refine S_val rfl rfl (Y_addU rfl rfl (nat_cast _) (nat_cast _) rfl (by simp only [IntKind.bits]; omega)) ?_
      refine S_as rfl rfl rfl ?_
      refine S_nx ?_
      refine T_sr ?_
      refine S_mv rfl rfl rfl ?_
      refine S_mv rfl rfl rfl ?_
      refine S_val rfl rfl (Y_ext rfl rfl fun w => add64 _ _ 0 (by omega) _) ?_
      refine S_mv rfl rfl rfl ?_
      refine S_val rfl rfl (Y_extract rfl rfl) ?_
      refine S_val rfl rfl (Y_extract rfl rfl) ?_
      refine S_as rfl rfl rfl ?_
      refine S_as rfl rfl rfl ?_
      refine S_nx ?_
      refine T_sr ?_
      refine S_mv rfl rfl rfl ?_
      refine S_mv rfl rfl rfl ?_
      refine S_val rfl rfl (Y_addN rfl rfl (nat_cast _) (nat_cast _) (by omega)) ?_
      refine S_mv rfl rfl rfl ?_
      refine S_val rfl rfl (Y_ixa (und rfl) (siz rfl) rfl rfl (nat_cast _) (by omega)) ?_
      refine S_storeI 4 (siz rfl) rfl rfl rfl (by simp; omega) rfl rfl ?_
      refine S_nx ?_
      refine T_region ?_
      refine S_mv rfl rfl rfl ?_
      refine S_mv rfl rfl rfl ?_
      refine S_val rfl rfl (Y_addU rfl rfl (nat_cast _) (nat_cast _) rfl (by simp only [IntKind.bits]; omega)) ?_
      refine S_as rfl rfl rfl ?_
      refine S_nil ?_
      refine X_blk ?_
      refine X_seq ?_
      refine T_region ?_
      refine S_val rfl rfl (Y_addN rfl rfl (nat_cast _) (nat_lit' _) (by omega)) ?_
      refine S_mv rfl rfl rfl ?_
      refine S_nil ?_
      refine X_loop ?_
      refine ⟨(j + 1, _, _), ⟨?_, ?_, ?_, ?_⟩, ?_, (by repeat (first | exact Env.sub_nil _ | (apply Env.sub_cons; rfl))), [], by rw [dl_put (by omega) (Nat.mod_lt _ (by omega))]; rfl⟩
      · dsimp only; omega
      · dsimp only; omega
      · dsimp only
        have hs := split_at 18446744073709551616 (i + j) p
        have hy2 := mod_pow_succ' y 18446744073709551616 j
        rw [hy2]
        clear hpb hob ho
        generalize x / 18446744073709551616 ^ i % 18446744073709551616 = xi at *
        generalize y / 18446744073709551616 ^ j % 18446744073709551616 = yj at *
        generalize p / 18446744073709551616 ^ (i + j) % 18446744073709551616 = pj at *
        have hP : (18446744073709551616 : Nat) ^ (i + (j + 1)) = 18446744073709551616 * 18446744073709551616 ^ (i + j) := by rw [← Nat.add_assoc, Nat.pow_succ, Nat.mul_comm]
        have hQ : xi * (y % 18446744073709551616 ^ j + yj * 18446744073709551616 ^ j) * 18446744073709551616 ^ i = xi * (y % 18446744073709551616 ^ j) * 18446744073709551616 ^ i + xi * yj * 18446744073709551616 ^ (i + j) := by
          rw [Nat.mul_add, Nat.add_mul, ← Nat.mul_assoc xi yj, Nat.mul_assoc (xi * yj), ← Nat.pow_add, Nat.add_comm j i]
        rw [hP, hQ, ← Nat.mul_assoc]
        generalize xi * yj = m at *
        generalize hl : ((m % 18446744073709551616 + pj + 0) % 18446744073709551616 + c + 0) % 18446744073709551616 = l2
        generalize hcc : m / 18446744073709551616 + (m % 18446744073709551616 + pj + 0) / 18446744073709551616 + ((m % 18446744073709551616 + pj + 0) % 18446744073709551616 + c + 0) / 18446744073709551616 = c2
        have key : l2 + c2 * 18446744073709551616 = m + pj + c := by omega
        have k2 := congrArg (· * 18446744073709551616 ^ (i + j)) key
        simp only [Nat.add_mul] at k2
        omega
      · dsimp only
        exact put_lt hpb (by omega) (Nat.mod_lt _ (by omega))
      · dsimp only; omega
    · obtain rfl : j = 4 := by omega
      refine T_sr ?_
      refine S_val rfl rfl (Y_lss_f rfl rfl (by decide)) ?_
      refine S_nx ?_
      refine T_seq ?_
      refine T_cond_false rfl ?_
      refine T_exit ?_
      refine X_seq_exit ?_
      refine X_loop_exit ?_
      refine X_blk_hit rfl ?_
      refine X_seq ?_
      refine T_region ?_
      refine S_mv rfl rfl rfl ?_
      refine S_val rfl rfl (Y_addN rfl rfl (nat_cast _) (nat_lit' _) (by omega)) ?_
      refine S_mv rfl rfl rfl ?_
      refine S_val rfl rfl (Y_ixa (und rfl) (siz rfl) rfl rfl (nat_cast _) (by omega)) ?_
      refine S_storeI 4 (siz rfl) rfl rfl rfl (by simp; omega) rfl rfl ?_
      refine S_nil ?_
      refine X_blk ?_
      refine X_seq ?_
      refine T_region ?_
      refine S_val rfl rfl (Y_addN rfl rfl (nat_cast _) (nat_lit' _) (by omega)) ?_
      refine S_mv rfl rfl rfl ?_
      refine S_nil ?_
      refine X_loop ?_
      refine ⟨(i + 1, p + c * 18446744073709551616 ^ (i + 4)), ⟨by dsimp only; omega, ?_⟩, by dsimp only; omega, (by repeat (first | exact Env.sub_nil _ | (apply Env.sub_cons; rfl))), [], ?_⟩
      · dsimp only
        rw [hp, Nat.mod_eq_of_lt hy4, ho, mod_pow_succ', Nat.add_mul, Nat.mul_right_comm]
      · dsimp only
        rw [dl_put (by omega) hc, dig_high' (by omega) hpb (Nat.le_refl _), Nat.zero_mul, Nat.sub_zero]
        rfl
  · obtain rfl : i = 4 := by omega
    rw [Nat.mod_eq_of_lt hx4] at ho
    subst ho
    refine T_sr ?_
    refine S_val rfl rfl (Y_lss_f rfl rfl (by decide)) ?_
    refine S_nx ?_
    refine T_seq ?_
    refine T_cond_false rfl ?_
    refine T_exit ?_
    refine X_seq_exit ?_
    refine X_loop_exit ?_
    refine X_blk_hit rfl ?_
    refine X_seq ?_
    refine T_seq ?_
    refine T_drawL (.succ (.succ (.succ (.succ (.succ (.succ .zero)))))) [.fx (blk b2 (.cells (ints .u64 (List.replicate 4 0)) 50 (0, 0))), .fx (blk b3 (.cells (ints .u64 (List.replicate 4 0)) 50 (0, 0)))] [blk b0 (.cells (ints .u64 (dl 18446744073709551616 4 (x))) 50 (0, 0)), blk b1 (.cells (ints .u64 (dl 18446744073709551616 4 (y))) 50 (0, 0)), blk b4 (.cells (ints .u64 (dl 18446744073709551616 8 (x * y))) 95 (0, 0))] rfl (by kernel_rfl) (Emb.idx [0, 1, 4, 2, 3] rfl rfl) rfl (by kernel_rfl) ?_
    refine D0_val rfl rfl rfl (Y_sliceArrHi (und rfl) (siz rfl) rfl rfl (nat_lit' _) (Nat.le_of_ble_eq_true rfl)) ?_
    refine D0_valM rfl rfl rfl (Y_arrayAt (und rfl) rfl (Nat.le_of_ble_eq_true rfl)) ?_
    refine D0_valM rfl rfl rfl (Y_loadPI 2 (und rfl) rfl rfl rfl (siz rfl) (Nat.le_of_ble_eq_true rfl)) ?_
    refine D0_val rfl rfl rfl (Y_sliceArrLo (und rfl) (siz rfl) rfl rfl (nat_lit' _) (Nat.le_of_ble_eq_true rfl)) ?_
    refine D0_valM rfl rfl rfl (Y_arrayAt (und rfl) rfl (Nat.le_of_ble_eq_true rfl)) ?_
    refine D0_valM rfl rfl rfl (Y_loadPI 2 (und rfl) rfl rfl rfl (siz rfl) (Nat.le_of_ble_eq_true rfl)) ?_
    refine D0_nilL ?_
    refine DL_storeAI rfl (fun _ => rfl) rfl (siz rfl) (fun _ => rfl) (fun _ => rfl) rfl rfl ?_
    refine DL_storeAI rfl (fun _ => rfl) rfl (siz rfl) (fun _ => rfl) (fun _ => rfl) rfl rfl ?_
    refine DL_nil fun _ => ?_
    refine X_seq ?_
    refine T_ret ?_
    rw [List.drop_zero, dl_take _ 8 _ 4 (by omega), if_neg (show ¬ 8 = 4 by decide), dl_drop, dl_take _ (8 - 4) _ 4 (by omega)]
    skip
    ((first | refine X_fin_ret ?_ | refine X_fin ?_); exact ⟨[_, _], [], .cons (.agg 3 rfl (und rfl) rfl rfl (siz rfl)) (.cons (.agg 4 rfl (und rfl) rfl rfl (siz rfl)) .nil), Emb.nil _, rfl, rfl⟩)
end Go.Proofs.YtjolmphkmfbpbaaDoor
/- Long division, bit by bit: the plain laws. -/
namespace Go.Proofs.YtjolmphkmfbpbaaDoor
open Go.RowKit
set_option maxRecDepth 20000
set_option maxHeartbeats 4000000
/-- A bit that is laid into a number whose bits up to it are 0. -/
theorem dl_orbit {Q i : Nat} (_hi : i < 256) (hQ : Q % 2 ^ (i + 1) = 0) : (dl 18446744073709551616 4 Q).set (i / 64) ((Q / 18446744073709551616 ^ (i / 64) % 18446744073709551616 ||| 1 * 2 ^ (i % 64) % 18446744073709551616 : Nat) : Int) = dl 18446744073709551616 4 (Q + 2 ^ i) := by
  have he : 2 ^ (i % 64) < 18446744073709551616 := by
    have : 2 ^ (i % 64) < 2 ^ 64 := Nat.pow_lt_pow_right (by omega) (by omega)
    exact this
  rw [Nat.one_mul, Nat.mod_eq_of_lt he]
  have hp : (2 : Nat) ^ i = 2 ^ (i % 64) * 18446744073709551616 ^ (i / 64) := by
    rw [show (18446744073709551616 : Nat) = 2 ^ 64 by decide, ← Nat.pow_mul, ← Nat.pow_add]
    congr 1
    omega
  obtain ⟨k, rfl⟩ : ∃ k, Q = 2 ^ (i + 1) * k := ⟨Q / 2 ^ (i + 1), by have := Nat.div_add_mod Q (2 ^ (i + 1)); omega⟩
  have hd : 2 ^ (i + 1) * k / 18446744073709551616 ^ (i / 64) = 2 ^ (i % 64 + 1) * k := by
    rw [Nat.pow_succ, hp, Nat.pow_succ, show 2 ^ (i % 64) * 18446744073709551616 ^ (i / 64) * 2 * k = 18446744073709551616 ^ (i / 64) * (2 ^ (i % 64) * 2 * k) by
      rw [Nat.mul_comm (2 ^ (i % 64)), Nat.mul_assoc, Nat.mul_assoc, Nat.mul_assoc], Nat.mul_div_cancel_left _ (Nat.pow_pos (by omega))]
  have hm : ∃ k', 2 ^ (i % 64 + 1) * k % 18446744073709551616 = 2 ^ (i % 64 + 1) * k' := by
    refine ⟨k % 2 ^ (63 - i % 64), ?_⟩
    have : (18446744073709551616 : Nat) = 2 ^ (i % 64 + 1) * 2 ^ (63 - i % 64) := by
      rw [← Nat.pow_add, show i % 64 + 1 + (63 - i % 64) = 64 by omega]
    rw [this, Nat.mul_mod_mul_left]
  obtain ⟨k', hk'⟩ := hm
  have hor : 2 ^ (i % 64 + 1) * k' ||| 2 ^ (i % 64) = 2 ^ (i % 64 + 1) * k' + 2 ^ (i % 64) := by
    rw [Nat.two_pow_add_eq_or_of_lt (Nat.pow_lt_pow_right (by omega) (by omega))]
  have hlt : 2 ^ (i % 64 + 1) * k' + 2 ^ (i % 64) < 18446744073709551616 := by
    rw [← hor, ← hk']
    exact Nat.or_lt_two_pow (n := 64) (Nat.mod_lt _ (by omega)) he
  rw [hd, hk', hor, dl_put (by omega) hlt, hd, hk', hp]
  congr 1
  have h1 : 2 ^ (i % 64 + 1) * k' * 18446744073709551616 ^ (i / 64) ≤ 2 ^ (i + 1) * k := by
    rw [← hk', ← hd]
    exact Nat.le_trans (Nat.mul_le_mul_right _ (Nat.mod_le _ _)) (Nat.div_mul_le_self _ _)
  rw [Nat.add_mul]
  omega
theorem dl_or1 {Q : Nat} (hQ : Q % 2 = 0) : (dl 18446744073709551616 4 Q).set 0 ((Q / 18446744073709551616 ^ 0 % 18446744073709551616 ||| 1 : Nat) : Int) = dl 18446744073709551616 4 (Q + 1) :=
  dl_orbit (i := 0) (by omega) hQ
/-- A step of the long division, bit by bit. -/
theorem bit_step {N y i : Nat} (hy : 0 < y) : N / 2 ^ i = 2 * (N / 2 ^ (i + 1)) + N / 2 ^ i % 2 ∧
    N / 2 ^ i / y = 2 * (N / 2 ^ (i + 1) / y) + (2 * (N / 2 ^ (i + 1) % y) + N / 2 ^ i % 2) / y ∧ N / 2 ^ i % y = (2 * (N / 2 ^ (i + 1) % y) + N / 2 ^ i % 2) % y := by
  have e : N / 2 ^ i = 2 * (N / 2 ^ (i + 1)) + N / 2 ^ i % 2 := by
    rw [Nat.pow_succ, ← Nat.div_div_eq_div_mul]
    omega
  have e2 : N / 2 ^ i = (2 * (N / 2 ^ (i + 1) % y) + N / 2 ^ i % 2) + (2 * (N / 2 ^ (i + 1) / y)) * y := by
    have h := Nat.div_add_mod (N / 2 ^ (i + 1)) y
    have h3 : 2 * (N / 2 ^ (i + 1) / y) * y = 2 * (y * (N / 2 ^ (i + 1) / y)) := by rw [Nat.mul_assoc, Nat.mul_comm y]
    rw [h3]
    omega
  refine ⟨e, ?_, ?_⟩
  · conv => lhs; rw [e2]
    rw [Nat.add_mul_div_right _ _ hy, Nat.add_comm]
  · conv => lhs; rw [e2]
    rw [Nat.add_mul_mod_self_right]
theorem W_ne {x y : Nat} (hx : x < 2 ^ 256) (hy : y < 2 ^ 256) (h : x ≠ y) : ¬ dl 18446744073709551616 4 x = dl 18446744073709551616 4 y := fun e => h (dl_inj (by omega) (Nat.lt_of_lt_of_le hx (by decide)) (Nat.lt_of_lt_of_le hy (by decide)) e)
end Go.Proofs.YtjolmphkmfbpbaaDoor
/- Quotients of words. -/
namespace Go.Proofs.YtjolmphkmfbpbaaDoor
open Go.RowKit
set_option maxRecDepth 20000
set_option maxHeartbeats 4000000
theorem step_any (l m b : Nat) (hm : m < 2 ^ 256) (hl : l < m) (hb : b < 2) (w : World) :
    Fn Tryd.prog 61 #[W l, W m, .bool (decide (b = 1))] w fun v N => v = .tuple #[W ((2 * l + b) % m), .bool (decide (m ≤ 2 * l + b))] ∧ N = [] := by
  have hl2 : l < 2 ^ 256 := by omega
  have s1 : ∀ w, Fn Tryd.prog 74 #[W l, .int .u64 1] w fun v N => v = W (2 * l % 2 ^ 256) ∧ N = [] := fun w => by
    have := shl_any l 1 (by omega) w
    rwa [show l * 2 ^ 1 % 2 ^ 256 = 2 * l % 2 ^ 256 by omega] at this
  have hov : l.testBit 255 = decide (2 ^ 256 ≤ 2 * l) := by
    rw [Nat.testBit_eq_decide_div_mod_eq]
    congr 1
    apply propext
    omega
  have hbt := fun w => bit_any l 255 hl2 (by omega) w
  rw [hov] at hbt
  have hev : 2 * l % 2 ^ 256 % 2 = 0 := by omega
  have hd0 := digit_lt (2 * l % 2 ^ 256) 0
  obtain ⟨k, hk⟩ : ∃ k, k = 2 * l % 2 ^ 256 + b := ⟨_, rfl⟩
  have hkl : k < 2 ^ 256 := by omega
  have hsub : m ≤ 2 * l + b → (∀ w, Fn Tryd.prog 76 #[W k, W m] w fun v N => v = W ((2 * l + b) % m) ∧ N = []) := fun h w => by
    have := sub_any k m hkl hm w
    have e1 : (k + 2 ^ 256 - m) % 2 ^ 256 = 2 * l + b - m := by omega
    have e2 : (2 * l + b) % m = 2 * l + b - m := by
      rw [Nat.mod_eq_sub_mod h, Nat.mod_eq_of_lt (by omega)]
    rwa [e1, ← e2] at this
  have hk0 : b = 0 → 2 * l % 2 ^ 256 = k := fun h => by omega
  have hk1 : b = 1 → 2 * l % 2 ^ 256 + 1 = k := fun h => by omega
  by_cases h1 : 2 ^ 256 ≤ 2 * l
  · rw [decide_eq_true h1] at hbt
    have hge : m ≤ 2 * l + b := by omega
    have hsb := hsub hge
    rw [decide_eq_true hge]
    by_cases h2 : b = 1
    · rw [decide_eq_true h2]
      refine Fn_of (args := [W l, W m, .bool true]) Tryd.func61 rfl Tryd.ntmps61 Tryd.results61 (by simp) ?_
      refine T_sr ?_
      refine S_boxA rfl rfl rfl fun _ => ?_
      refine S_boxA rfl rfl rfl fun _ => ?_
      refine S_allocA (zer rfl) rfl rfl fun _ => ?_
      refine S_as rfl rfl rfl ?_
      refine S_nx ?_
      refine T_sr ?_
      refine S_val rfl rfl (Y_loadAI 0 (und rfl) rfl rfl rfl (siz rfl) (dl_length _ _ _)) ?_
      refine S_callV rfl rfl (bod rfl) (fun w hs => hbt _) rfl rfl ?_
      refine S_as rfl rfl rfl ?_
      refine S_nx ?_
      refine T_sr ?_
      refine S_val rfl rfl (Y_loadAI 0 (und rfl) rfl rfl rfl (siz rfl) (dl_length _ _ _)) ?_
      refine S_callV rfl rfl (bod rfl) (fun w hs => s1 _) rfl rfl ?_
      refine S_storeAI 0 (siz rfl) rfl rfl rfl (dl_length _ _ _) (dl_length _ _ _) rfl ?_
      refine S_nx ?_
      refine T_seq ?_
      refine T_sr ?_
      refine S_mv rfl rfl rfl ?_
      refine S_nx ?_
      refine T_cond_true rfl ?_
      refine T_region ?_
      refine S_val rfl rfl (Y_ixa (und rfl) (siz rfl) rfl rfl (nat_lit' _) (Nat.le_of_ble_eq_true rfl)) ?_
      refine S_val rfl rfl (Y_loadI 0 (und rfl) rfl rfl rfl (dl_get (Nat.le_of_ble_eq_true rfl))) ?_
      refine S_val rfl rfl (Y_or rfl rfl (nat_cast _) (nat_lit' _) rfl (by simp only [IntKind.bits]; assumption) (by simp only [IntKind.bits]; omega)) ?_
      refine S_val rfl rfl (Y_ixa (und rfl) (siz rfl) rfl rfl (nat_lit' _) (Nat.le_of_ble_eq_true rfl)) ?_
      refine S_storeI 0 (siz rfl) rfl rfl rfl (Nat.le_of_ble_eq_true rfl) rfl rfl ?_
      refine S_nx ?_
      refine T_seq ?_
      refine T_sr ?_
      refine S_mv rfl rfl rfl ?_
      refine S_mv rfl rfl rfl ?_
      refine S_skip rfl rfl ?_
      refine S_skip rfl rfl ?_
      refine S_skip rfl rfl ?_
      refine S_skip rfl rfl ?_
      refine S_val rfl rfl (Y_pick_t rfl rfl) ?_
      refine S_nx ?_
      refine T_cond_true rfl ?_
      refine T_sr ?_
      refine S_val rfl rfl (Y_loadAI 0 (und rfl) rfl rfl rfl (siz rfl) rfl) ?_
      refine S_val rfl rfl (Y_loadAI 1 (und rfl) rfl rfl rfl (siz rfl) (dl_length _ _ _)) ?_
      rw [dl_or1 hev, hk1 h2]
      refine S_callV rfl rfl (bod rfl) (fun w hs => hsb _) rfl rfl ?_
      refine S_storeAI 2 (siz rfl) rfl rfl rfl rfl (dl_length _ _ _) rfl ?_
      refine S_as rfl rfl rfl ?_
      refine S_nx ?_
      refine T_ret ?_
      refine X_seq_ret ?_
      ((first | refine X_fin_ret ?_ | refine X_fin ?_); exact ⟨[_, _], [], .cons (.agg 2 rfl (und rfl) rfl rfl (siz rfl)) (.cons (.tmp rfl) .nil), Emb.nil _, rfl, rfl⟩)
    · rw [decide_eq_false h2]
      refine Fn_of (args := [W l, W m, .bool false]) Tryd.func61 rfl Tryd.ntmps61 Tryd.results61 (by simp) ?_
      refine T_sr ?_
      refine S_boxA rfl rfl rfl fun _ => ?_
      refine S_boxA rfl rfl rfl fun _ => ?_
      refine S_allocA (zer rfl) rfl rfl fun _ => ?_
      refine S_as rfl rfl rfl ?_
      refine S_nx ?_
      refine T_sr ?_
      refine S_val rfl rfl (Y_loadAI 0 (und rfl) rfl rfl rfl (siz rfl) (dl_length _ _ _)) ?_
      refine S_callV rfl rfl (bod rfl) (fun w hs => hbt _) rfl rfl ?_
      refine S_as rfl rfl rfl ?_
      refine S_nx ?_
      refine T_sr ?_
      refine S_val rfl rfl (Y_loadAI 0 (und rfl) rfl rfl rfl (siz rfl) (dl_length _ _ _)) ?_
      refine S_callV rfl rfl (bod rfl) (fun w hs => s1 _) rfl rfl ?_
      refine S_storeAI 0 (siz rfl) rfl rfl rfl (dl_length _ _ _) (dl_length _ _ _) rfl ?_
      refine S_nx ?_
      refine T_seq ?_
      refine T_sr ?_
      refine S_mv rfl rfl rfl ?_
      refine S_nx ?_
      refine T_cond_false rfl ?_
      refine T_skip ?_
      refine X_seq ?_
      refine T_seq ?_
      refine T_sr ?_
      refine S_mv rfl rfl rfl ?_
      refine S_mv rfl rfl rfl ?_
      refine S_skip rfl rfl ?_
      refine S_skip rfl rfl ?_
      refine S_skip rfl rfl ?_
      refine S_skip rfl rfl ?_
      refine S_val rfl rfl (Y_pick_t rfl rfl) ?_
      refine S_nx ?_
      refine T_cond_true rfl ?_
      refine T_sr ?_
      refine S_val rfl rfl (Y_loadAI 0 (und rfl) rfl rfl rfl (siz rfl) (dl_length _ _ _)) ?_
      refine S_val rfl rfl (Y_loadAI 1 (und rfl) rfl rfl rfl (siz rfl) (dl_length _ _ _)) ?_
      rw [hk0 (by omega)]
      refine S_callV rfl rfl (bod rfl) (fun w hs => hsb _) rfl rfl ?_
      refine S_storeAI 2 (siz rfl) rfl rfl rfl rfl (dl_length _ _ _) rfl ?_
      refine S_as rfl rfl rfl ?_
      refine S_nx ?_
      refine T_ret ?_
      refine X_seq_ret ?_
      ((first | refine X_fin_ret ?_ | refine X_fin ?_); exact ⟨[_, _], [], .cons (.agg 2 rfl (und rfl) rfl rfl (siz rfl)) (.cons (.tmp rfl) .nil), Emb.nil _, rfl, rfl⟩)
  · rw [decide_eq_false h1] at hbt
    have hke : k = 2 * l + b := by omega
    by_cases hge : m ≤ 2 * l + b
    · have hsb := hsub hge
      rw [decide_eq_true hge]
      obtain ⟨c, hc0, hc⟩ : ∃ c : Int, 0 ≤ c ∧ ∀ w, Fn Tryd.prog 75 #[W k, W m] w fun v N => v = .int .i64 c ∧ N = [] :=
        ⟨cmpI k m, by unfold cmpI; rw [if_neg (by omega)]; split <;> omega, fun w => compare_any k m hkl hm w⟩
      by_cases h2 : b = 1
      · rw [decide_eq_true h2]
        refine Fn_of (args := [W l, W m, .bool true]) Tryd.func61 rfl Tryd.ntmps61 Tryd.results61 (by simp) ?_
        refine T_sr ?_
        refine S_boxA rfl rfl rfl fun _ => ?_
        refine S_boxA rfl rfl rfl fun _ => ?_
        refine S_allocA (zer rfl) rfl rfl fun _ => ?_
        refine S_as rfl rfl rfl ?_
        refine S_nx ?_
        refine T_sr ?_
        refine S_val rfl rfl (Y_loadAI 0 (und rfl) rfl rfl rfl (siz rfl) (dl_length _ _ _)) ?_
        refine S_callV rfl rfl (bod rfl) (fun w hs => hbt _) rfl rfl ?_
        refine S_as rfl rfl rfl ?_
        refine S_nx ?_
        refine T_sr ?_
        refine S_val rfl rfl (Y_loadAI 0 (und rfl) rfl rfl rfl (siz rfl) (dl_length _ _ _)) ?_
        refine S_callV rfl rfl (bod rfl) (fun w hs => s1 _) rfl rfl ?_
        refine S_storeAI 0 (siz rfl) rfl rfl rfl (dl_length _ _ _) (dl_length _ _ _) rfl ?_
        refine S_nx ?_
        refine T_seq ?_
        refine T_sr ?_
        refine S_mv rfl rfl rfl ?_
        refine S_nx ?_
        refine T_cond_true rfl ?_
        refine T_region ?_
        refine S_val rfl rfl (Y_ixa (und rfl) (siz rfl) rfl rfl (nat_lit' _) (Nat.le_of_ble_eq_true rfl)) ?_
        refine S_val rfl rfl (Y_loadI 0 (und rfl) rfl rfl rfl (dl_get (Nat.le_of_ble_eq_true rfl))) ?_
        refine S_val rfl rfl (Y_or rfl rfl (nat_cast _) (nat_lit' _) rfl (by simp only [IntKind.bits]; assumption) (by simp only [IntKind.bits]; omega)) ?_
        refine S_val rfl rfl (Y_ixa (und rfl) (siz rfl) rfl rfl (nat_lit' _) (Nat.le_of_ble_eq_true rfl)) ?_
        refine S_storeI 0 (siz rfl) rfl rfl rfl (Nat.le_of_ble_eq_true rfl) rfl rfl ?_
        refine S_nx ?_
        refine T_seq ?_
        refine T_sr ?_
        refine S_mv rfl rfl rfl ?_
        refine S_mv rfl rfl rfl ?_
        refine S_val rfl rfl (Y_loadAI 0 (und rfl) rfl rfl rfl (siz rfl) rfl) ?_
        refine S_val rfl rfl (Y_loadAI 1 (und rfl) rfl rfl rfl (siz rfl) (dl_length _ _ _)) ?_
        rw [dl_or1 hev, hk1 h2]
        refine S_callV rfl rfl (bod rfl) (fun w hs => hc _) rfl rfl ?_
        refine S_val rfl rfl (Y_geq_t rfl rfl (by assumption)) ?_
        refine S_val rfl rfl (Y_pick_f rfl rfl) ?_
        refine S_nx ?_
        refine T_cond_true rfl ?_
        refine T_sr ?_
        refine S_val rfl rfl (Y_loadAI 0 (und rfl) rfl rfl rfl (siz rfl) (dl_length _ _ _)) ?_
        refine S_val rfl rfl (Y_loadAI 1 (und rfl) rfl rfl rfl (siz rfl) (dl_length _ _ _)) ?_
        refine S_callV rfl rfl (bod rfl) (fun w hs => hsb _) rfl rfl ?_
        refine S_storeAI 2 (siz rfl) rfl rfl rfl rfl (dl_length _ _ _) rfl ?_
        refine S_as rfl rfl rfl ?_
        refine S_nx ?_
        refine T_ret ?_
        refine X_seq_ret ?_
        ((first | refine X_fin_ret ?_ | refine X_fin ?_); exact ⟨[_, _], [], .cons (.agg 2 rfl (und rfl) rfl rfl (siz rfl)) (.cons (.tmp rfl) .nil), Emb.nil _, rfl, rfl⟩)
      · rw [decide_eq_false h2]
        refine Fn_of (args := [W l, W m, .bool false]) Tryd.func61 rfl Tryd.ntmps61 Tryd.results61 (by simp) ?_
        refine T_sr ?_
        refine S_boxA rfl rfl rfl fun _ => ?_
        refine S_boxA rfl rfl rfl fun _ => ?_
        refine S_allocA (zer rfl) rfl rfl fun _ => ?_
        refine S_as rfl rfl rfl ?_
        refine S_nx ?_
        refine T_sr ?_
        refine S_val rfl rfl (Y_loadAI 0 (und rfl) rfl rfl rfl (siz rfl) (dl_length _ _ _)) ?_
        refine S_callV rfl rfl (bod rfl) (fun w hs => hbt _) rfl rfl ?_
        refine S_as rfl rfl rfl ?_
        refine S_nx ?_
        refine T_sr ?_
        refine S_val rfl rfl (Y_loadAI 0 (und rfl) rfl rfl rfl (siz rfl) (dl_length _ _ _)) ?_
        refine S_callV rfl rfl (bod rfl) (fun w hs => s1 _) rfl rfl ?_
        refine S_storeAI 0 (siz rfl) rfl rfl rfl (dl_length _ _ _) (dl_length _ _ _) rfl ?_
        refine S_nx ?_
        refine T_seq ?_
        refine T_sr ?_
        refine S_mv rfl rfl rfl ?_
        refine S_nx ?_
        refine T_cond_false rfl ?_
        refine T_skip ?_
        refine X_seq ?_
        refine T_seq ?_
        refine T_sr ?_
        refine S_mv rfl rfl rfl ?_
        refine S_mv rfl rfl rfl ?_
        refine S_val rfl rfl (Y_loadAI 0 (und rfl) rfl rfl rfl (siz rfl) (dl_length _ _ _)) ?_
        refine S_val rfl rfl (Y_loadAI 1 (und rfl) rfl rfl rfl (siz rfl) (dl_length _ _ _)) ?_
        rw [hk0 (by omega)]
        refine S_callV rfl rfl (bod rfl) (fun w hs => hc _) rfl rfl ?_
        refine S_val rfl rfl (Y_geq_t rfl rfl (by assumption)) ?_
        refine S_val rfl rfl (Y_pick_f rfl rfl) ?_
        refine S_nx ?_
        refine T_cond_true rfl ?_
        refine T_sr ?_
        refine S_val rfl rfl (Y_loadAI 0 (und rfl) rfl rfl rfl (siz rfl) (dl_length _ _ _)) ?_
        refine S_val rfl rfl (Y_loadAI 1 (und rfl) rfl rfl rfl (siz rfl) (dl_length _ _ _)) ?_
        refine S_callV rfl rfl (bod rfl) (fun w hs => hsb _) rfl rfl ?_
        refine S_storeAI 2 (siz rfl) rfl rfl rfl rfl (dl_length _ _ _) rfl ?_
        refine S_as rfl rfl rfl ?_
        refine S_nx ?_
        refine T_ret ?_
        refine X_seq_ret ?_
        ((first | refine X_fin_ret ?_ | refine X_fin ?_); exact ⟨[_, _], [], .cons (.agg 2 rfl (und rfl) rfl rfl (siz rfl)) (.cons (.tmp rfl) .nil), Emb.nil _, rfl, rfl⟩)
    · rw [decide_eq_false hge]
      obtain ⟨c, hc0, hc⟩ : ∃ c : Int, ¬ 0 ≤ c ∧ ∀ w, Fn Tryd.prog 75 #[W k, W m] w fun v N => v = .int .i64 c ∧ N = [] :=
        ⟨cmpI k m, by unfold cmpI; rw [if_pos (by omega)]; omega, fun w => compare_any k m hkl hm w⟩
      by_cases h2 : b = 1
      · rw [decide_eq_true h2]
        refine Fn_of (args := [W l, W m, .bool true]) Tryd.func61 rfl Tryd.ntmps61 Tryd.results61 (by simp) ?_
        refine T_sr ?_
        refine S_boxA rfl rfl rfl fun _ => ?_
        refine S_boxA rfl rfl rfl fun _ => ?_
        refine S_allocA (zer rfl) rfl rfl fun _ => ?_
        refine S_as rfl rfl rfl ?_
        refine S_nx ?_
        refine T_sr ?_
        refine S_val rfl rfl (Y_loadAI 0 (und rfl) rfl rfl rfl (siz rfl) (dl_length _ _ _)) ?_
        refine S_callV rfl rfl (bod rfl) (fun w hs => hbt _) rfl rfl ?_
        refine S_as rfl rfl rfl ?_
        refine S_nx ?_
        refine T_sr ?_
        refine S_val rfl rfl (Y_loadAI 0 (und rfl) rfl rfl rfl (siz rfl) (dl_length _ _ _)) ?_
        refine S_callV rfl rfl (bod rfl) (fun w hs => s1 _) rfl rfl ?_
        refine S_storeAI 0 (siz rfl) rfl rfl rfl (dl_length _ _ _) (dl_length _ _ _) rfl ?_
        refine S_nx ?_
        refine T_seq ?_
        refine T_sr ?_
        refine S_mv rfl rfl rfl ?_
        refine S_nx ?_
        refine T_cond_true rfl ?_
        refine T_region ?_
        refine S_val rfl rfl (Y_ixa (und rfl) (siz rfl) rfl rfl (nat_lit' _) (Nat.le_of_ble_eq_true rfl)) ?_
        refine S_val rfl rfl (Y_loadI 0 (und rfl) rfl rfl rfl (dl_get (Nat.le_of_ble_eq_true rfl))) ?_
        refine S_val rfl rfl (Y_or rfl rfl (nat_cast _) (nat_lit' _) rfl (by simp only [IntKind.bits]; assumption) (by simp only [IntKind.bits]; omega)) ?_
        refine S_val rfl rfl (Y_ixa (und rfl) (siz rfl) rfl rfl (nat_lit' _) (Nat.le_of_ble_eq_true rfl)) ?_
        refine S_storeI 0 (siz rfl) rfl rfl rfl (Nat.le_of_ble_eq_true rfl) rfl rfl ?_
        refine S_nx ?_
        refine T_seq ?_
        refine T_sr ?_
        refine S_mv rfl rfl rfl ?_
        refine S_mv rfl rfl rfl ?_
        refine S_val rfl rfl (Y_loadAI 0 (und rfl) rfl rfl rfl (siz rfl) rfl) ?_
        refine S_val rfl rfl (Y_loadAI 1 (und rfl) rfl rfl rfl (siz rfl) (dl_length _ _ _)) ?_
        rw [dl_or1 hev, hk1 h2]
        refine S_callV rfl rfl (bod rfl) (fun w hs => hc _) rfl rfl ?_
        refine S_val rfl rfl (Y_geq_f rfl rfl (by assumption)) ?_
        refine S_val rfl rfl (Y_pick_f rfl rfl) ?_
        refine S_nx ?_
        refine T_cond_false rfl ?_
        refine T_skip ?_
        refine X_seq ?_
        refine T_sr ?_
        refine S_val rfl rfl (Y_loadAI 0 (und rfl) rfl rfl rfl (siz rfl) (dl_length _ _ _)) ?_
        refine S_storeAI 2 (siz rfl) rfl rfl rfl rfl (dl_length _ _ _) rfl ?_
        refine S_as rfl rfl rfl ?_
        refine S_nx ?_
        refine T_ret ?_
        ((first | refine X_fin_ret ?_ | refine X_fin ?_); exact ⟨[_, _], [], .cons (.agg 2 rfl (und rfl) rfl rfl (siz rfl)) (.cons (.tmp rfl) .nil), Emb.nil _, by rw [Nat.mod_eq_of_lt (by omega), hke]; rfl, rfl⟩)
      · rw [decide_eq_false h2]
        refine Fn_of (args := [W l, W m, .bool false]) Tryd.func61 rfl Tryd.ntmps61 Tryd.results61 (by simp) ?_
        refine T_sr ?_
        refine S_boxA rfl rfl rfl fun _ => ?_
        refine S_boxA rfl rfl rfl fun _ => ?_
        refine S_allocA (zer rfl) rfl rfl fun _ => ?_
        refine S_as rfl rfl rfl ?_
        refine S_nx ?_
        refine T_sr ?_
        refine S_val rfl rfl (Y_loadAI 0 (und rfl) rfl rfl rfl (siz rfl) (dl_length _ _ _)) ?_
        refine S_callV rfl rfl (bod rfl) (fun w hs => hbt _) rfl rfl ?_
        refine S_as rfl rfl rfl ?_
        refine S_nx ?_
        refine T_sr ?_
        refine S_val rfl rfl (Y_loadAI 0 (und rfl) rfl rfl rfl (siz rfl) (dl_length _ _ _)) ?_
        refine S_callV rfl rfl (bod rfl) (fun w hs => s1 _) rfl rfl ?_
        refine S_storeAI 0 (siz rfl) rfl rfl rfl (dl_length _ _ _) (dl_length _ _ _) rfl ?_
        refine S_nx ?_
        refine T_seq ?_
        refine T_sr ?_
        refine S_mv rfl rfl rfl ?_
        refine S_nx ?_
        refine T_cond_false rfl ?_
        refine T_skip ?_
        refine X_seq ?_
        refine T_seq ?_
        refine T_sr ?_
        refine S_mv rfl rfl rfl ?_
        refine S_mv rfl rfl rfl ?_
        refine S_val rfl rfl (Y_loadAI 0 (und rfl) rfl rfl rfl (siz rfl) (dl_length _ _ _)) ?_
        refine S_val rfl rfl (Y_loadAI 1 (und rfl) rfl rfl rfl (siz rfl) (dl_length _ _ _)) ?_
        rw [hk0 (by omega)]
        refine S_callV rfl rfl (bod rfl) (fun w hs => hc _) rfl rfl ?_
        refine S_val rfl rfl (Y_geq_f rfl rfl (by assumption)) ?_
        refine S_val rfl rfl (Y_pick_f rfl rfl) ?_
        refine S_nx ?_
        refine T_cond_false rfl ?_
        refine T_skip ?_
        refine X_seq ?_
        refine T_sr ?_
        refine S_val rfl rfl (Y_loadAI 0 (und rfl) rfl rfl rfl (siz rfl) (dl_length _ _ _)) ?_
        refine S_storeAI 2 (siz rfl) rfl rfl rfl rfl (dl_length _ _ _) rfl ?_
        refine S_as rfl rfl rfl ?_
        refine S_nx ?_
        refine T_ret ?_
        ((first | refine X_fin_ret ?_ | refine X_fin ?_); exact ⟨[_, _], [], .cons (.agg 2 rfl (und rfl) rfl rfl (siz rfl)) (.cons (.tmp rfl) .nil), Emb.nil _, by rw [Nat.mod_eq_of_lt (by omega), hke]; rfl, rfl⟩)
theorem div_stepB {b x y i r : Nat} (hy : 0 < y) (hr : r = x / b ^ (i + 1) % y) : x / b ^ i / y = x / b ^ (i + 1) / y * b + (r * b + x / b ^ i % b) / y ∧ x / b ^ i % y = (r * b + x / b ^ i % b) % y := by
  have e : x / b ^ i = (r * b + x / b ^ i % b) + (x / b ^ (i + 1) / y * b) * y := by
    have h1 : x / b ^ (i + 1) = x / b ^ i / b := by rw [Nat.pow_succ, Nat.div_div_eq_div_mul]
    have h2 := Nat.div_add_mod (x / b ^ (i + 1)) y
    rw [← hr, h1] at h2
    rw [h1]
    have h4 := Nat.div_add_mod (x / b ^ i) b
    have h3 : x / b ^ i / b / y * b * y = b * (y * (x / b ^ i / b / y)) := by rw [Nat.mul_right_comm, Nat.mul_comm (x / b ^ i / b / y) y, Nat.mul_comm b]
    have h5 : b * (y * (x / b ^ i / b / y) + r) = b * (x / b ^ i / b) := by rw [h2]
    rw [Nat.mul_add] at h5
    rw [h3, Nat.mul_comm r]
    omega
  constructor
  · conv => lhs; rw [e]
    rw [Nat.add_mul_div_right _ _ hy, Nat.add_comm]
  · conv => lhs; rw [e]
    rw [Nat.add_mul_mod_self_right]
theorem short_any (x y : Nat) (hx : x < 2 ^ 256) (hy0 : 0 < y) (hy : y < 18446744073709551616) (w : World) :
    Fn Tryd.prog 60 #[W x, .int .u64 y] w fun v N => v = .tuple #[W (x / y), W (x % y)] ∧ N = [] := by
  refine Fn_of (args := [W x, .int .u64 y]) Tryd.func60 rfl Tryd.ntmps60 Tryd.results60 (by simp) ?_
  refine T_sr ?_
  refine S_boxA rfl rfl rfl fun _ => ?_
  refine S_allocA (zer rfl) rfl rfl fun _ => ?_
  refine S_allocA (zer rfl) rfl rfl fun _ => ?_
  refine S_nx ?_
  refine T_sr ?_
  refine S_allocA (zer rfl) rfl rfl fun _ => ?_
  refine S_nx ?_
  refine T_sr ?_
  refine S_as rfl rfl rfl ?_
  refine S_nx ?_
  refine T_seq ?_
  refine T_sr ?_
  refine S_as rfl rfl rfl ?_
  refine S_nx ?_
  refine T_block ?_
  rename_i b0 b1 b2 b3
  have hx4 : x < 18446744073709551616 ^ 4 := hx
  refine T_loop (α := Nat) (fun j => j ≤ 4)
    (fun j => [(1, .int .u64 y), (2, .pointer (some ⟨b0, 0, none⟩)), (4, .pointer (some ⟨b1, 0, none⟩)), (5, .pointer (some ⟨b2, 0, none⟩)), (6, .pointer (some ⟨b3, 0, none⟩)), (7, .int .u64 ((x / 18446744073709551616 ^ j % y : Nat) : Int)), (8, .int .i64 ((j : Int) - 1))])
    (fun j => [blk b0 (.cells (ints .u64 (dl 18446744073709551616 4 (x))) 50 (0, 0)), blk b1 (.cells (ints .u64 (List.replicate 4 0)) 50 (0, 0)), blk b2 (.cells (ints .u64 (List.replicate 4 0)) 50 (0, 0)), blk b3 (.cells (ints .u64 (dl 18446744073709551616 4 (x / 18446744073709551616 ^ j / y * 18446744073709551616 ^ j))) 50 (0, 0))])
    (fun j => j) 4 (Nat.le_refl _) (by rw [Nat.div_eq_of_lt hx4, Nat.zero_mod]; exact (by repeat (first | exact Env.sub_nil _ | (apply Env.sub_cons; rfl)))) [] (by rw [Nat.div_eq_of_lt hx4, Nat.zero_div, Nat.zero_mul]; rfl) ?_
  intro j hj
  by_cases h : j = 0
  · subst h
    have hr : x / 18446744073709551616 ^ 0 % y < 18446744073709551616 := Nat.lt_trans (Nat.mod_lt _ hy0) hy
    refine T_seq ?_
    refine T_sr ?_
    refine S_mv rfl rfl rfl ?_
    refine S_val rfl rfl (Y_geq_f rfl rfl (by decide)) ?_
    refine S_nx ?_
    refine T_cond_false rfl ?_
    refine T_exit ?_
    refine X_seq_exit ?_
    refine X_loop_exit ?_
    refine X_blk_hit rfl ?_
    refine X_seq ?_
    refine T_seq ?_
    refine T_drawL (.succ (.succ (.succ .zero))) [.fx (blk b1 (.cells (ints .u64 (List.replicate 4 0)) 50 (0, 0))), .fx (blk b2 (.cells (ints .u64 (List.replicate 4 0)) 50 (0, 0)))] [blk b0 (.cells (ints .u64 (dl 18446744073709551616 4 (x))) 50 (0, 0)), blk b3 (.cells (ints .u64 (dl 18446744073709551616 4 (x / 18446744073709551616 ^ 0 / y * 18446744073709551616 ^ 0))) 50 (0, 0))] rfl (by kernel_rfl) (Emb.idx [0, 3, 1, 2] rfl rfl) rfl (by kernel_rfl) ?_
    refine D0_valM rfl rfl rfl (Y_loadAI 1 (und rfl) rfl rfl rfl (siz rfl) (dl_length _ _ _)) ?_
    refine D0_val rfl rfl rfl (Y_move rfl) ?_
    refine D0_callV rfl rfl (bod rfl) (fun w hs => of_any _ hr _) rfl rfl ?_
    refine D0_nilL ?_
    refine DL_storeAI rfl (fun _ => rfl) rfl (siz rfl) (fun _ => rfl) (fun _ => rfl) rfl (dl_length _ _ _) ?_
    refine DL_storeAI rfl (fun _ => rfl) rfl (siz rfl) (fun _ => rfl) (fun _ => rfl) rfl (dl_length _ _ _) ?_
    refine DL_nil fun _ => ?_
    refine X_seq ?_
    refine T_ret ?_
    ((first | refine X_fin_ret ?_ | refine X_fin ?_); exact ⟨[_, _], [], .cons (.agg 2 rfl (und rfl) rfl rfl (siz rfl)) (.cons (.agg 3 rfl (und rfl) rfl rfl (siz rfl)) .nil), Emb.nil _, by rw [Nat.pow_zero, Nat.div_one, Nat.mul_one]; rfl, rfl⟩)
  · obtain ⟨i, rfl⟩ : ∃ i, j = i + 1 := ⟨j - 1, by omega⟩
    rw [show (((i + 1 : Nat) : Int) - 1) = (i : Int) by omega]
    have hd := digit_lt x i
    obtain ⟨r, hr⟩ : ∃ r, r = x / 18446744073709551616 ^ (i + 1) % y := ⟨_, rfl⟩
    have hry : r < y := by rw [hr]; exact Nat.mod_lt _ hy0
    obtain ⟨hq, hm⟩ := div_stepB hy0 hr
    rw [← hr]
    generalize x / 18446744073709551616 ^ (i + 1) / y = Q at *
    have hqd : (r * 18446744073709551616 + x / 18446744073709551616 ^ i % 18446744073709551616) / y < 18446744073709551616 := by
      refine Nat.div_lt_of_lt_mul ?_
      have : (r + 1) * 18446744073709551616 ≤ y * 18446744073709551616 := Nat.mul_le_mul_right _ hry
      omega
    refine T_seq ?_
    refine T_sr ?_
    refine S_mv rfl rfl rfl ?_
    refine S_val rfl rfl (Y_geq_t rfl rfl (by omega)) ?_
    refine S_nx ?_
    refine T_cond_true rfl ?_
    refine T_skip ?_
    refine X_seq ?_
    refine T_seq ?_
    refine T_block ?_
    refine T_region ?_
    refine S_mv rfl rfl rfl ?_
    refine S_mv rfl rfl rfl ?_
    refine S_mv rfl rfl rfl ?_
    refine S_val rfl rfl (Y_ixa (und rfl) (siz rfl) rfl rfl (nat_cast _) (by assumption)) ?_
    refine S_val rfl rfl (Y_loadI 0 (und rfl) rfl rfl rfl (dl_get (by assumption))) ?_
    refine S_mv rfl rfl rfl ?_
    refine S_callV rfl rfl (bod rfl) (fun w hs => div64_any r (x / 18446744073709551616 ^ i % 18446744073709551616) y hy hd hry _) rfl rfl ?_
    refine S_mv rfl rfl rfl ?_
    refine S_val rfl rfl (Y_extract rfl rfl) ?_
    refine S_val rfl rfl (Y_extract rfl rfl) ?_
    refine S_val rfl rfl (Y_ixa (und rfl) (siz rfl) rfl rfl (nat_cast _) (by assumption)) ?_
    refine S_storeI 3 (siz rfl) rfl rfl rfl (by simp; omega) rfl rfl ?_
    refine S_as rfl rfl rfl ?_
    refine S_nil ?_
    refine X_blk ?_
    refine X_seq ?_
    refine T_region ?_
    refine S_mv rfl rfl rfl ?_
    refine S_val rfl rfl (Y_sub rfl rfl (wi64 (by omega) (by omega))) ?_
    refine S_as rfl rfl rfl ?_
    refine S_nil ?_
    refine X_loop ?_
    refine ⟨i, by omega, by omega, by rw [hm]; exact (by repeat (first | exact Env.sub_nil _ | (apply Env.sub_cons; rfl))), [], ?_⟩
    have hz : Q * 18446744073709551616 ^ (i + 1) / 18446744073709551616 ^ i % 18446744073709551616 = 0 := by
      rw [Nat.pow_succ, Nat.mul_comm (18446744073709551616 ^ i), ← Nat.mul_assoc, Nat.mul_div_cancel _ (Nat.pow_pos (by omega)), Nat.mul_mod_left]
    rw [dl_put (by omega) hqd, hz, Nat.zero_mul, Nat.sub_zero, hq, Nat.add_mul, Nat.mul_assoc Q, Nat.mul_comm 18446744073709551616 (18446744073709551616 ^ i), ← Nat.pow_succ]
    rfl
end Go.Proofs.YtjolmphkmfbpbaaDoor
