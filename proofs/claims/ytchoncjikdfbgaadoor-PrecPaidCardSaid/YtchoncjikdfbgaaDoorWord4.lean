import Derived.Test.YtchoncjikdfbgaaDoorBytes
import Derived.Test.YtchoncjikdfbgaaDoorStrs
import Derived.Test.YtchoncjikdfbgaaDoorRef5
/- A word of bytes. -/
namespace Go.Proofs.YtchoncjikdfbgaaDoor
open Go.RowKit
set_option maxRecDepth 20000
set_option maxHeartbeats 4000000

theorem wfrom_any (n x : Nat) (hx : x < 256 ^ n) (hn : n ≤ 9223372036854775807) (v : Value) (w : World) (hr : Rd w v .u8 (bel n x)) : Fn Tryd.prog 26 #[v] w fun u N => u = W (x % 2 ^ 256) ∧ N = [] := by
  by_cases h : 32 < n
  · have hr2 : Rd w (vDrop (n - 32) v) .u8 (bel 32 (x % 2 ^ 256)) := by
      have := hr.dropV (j := n - 32) (by rw [bel_length]; omega)
      rw [bel_drop _ _ _ (by omega), show n - (n - 32) = 32 by omega] at this
      rw [show (2 : Nat) ^ 256 = 256 ^ 32 by decide, bel_mod]
      exact this
    have hy : x % 2 ^ 256 < 256 ^ 32 := Nat.mod_lt _ (by decide)
    generalize x % 2 ^ 256 = y at *
    clear hx
    refine Fn_of (args := [v]) Tryd.func26 rfl Tryd.ntmps26 Tryd.results26 (by simp) ?_
    refine T_seq ?_
    refine T_region ?_
    refine S_allocA (zer rfl) rfl rfl fun _ => ?_
    refine S_nil ?_
    refine X_seq ?_
    refine T_seq ?_
    refine T_region ?_
    refine S_allocA (zer rfl) rfl rfl fun _ => ?_
    refine S_nil ?_
    refine X_seq ?_
    refine T_seq ?_
    refine T_seq ?_
    refine T_region ?_
    refine S_val rfl rfl (Y_move rfl) ?_
    refine S_val rfl rfl (Y_lenV rfl (und rfl) rfl (fun _ hs => Rd.st (by assumption) hs) (bel_length _ _)) ?_
    refine S_val rfl rfl (Y_gtr_t rfl rfl (by omega)) ?_
    refine S_nil ?_
    refine X_seq ?_
    refine T_cond_true rfl ?_
    refine T_region ?_
    refine S_val rfl rfl (Y_move rfl) ?_
    refine S_val rfl rfl (Y_move rfl) ?_
    refine S_val rfl rfl (Y_lenV rfl (und rfl) rfl (fun _ hs => Rd.st (by assumption) hs) (bel_length _ _)) ?_
    refine S_val rfl rfl (Y_subN rfl rfl (nat_cast _) (nat_lit' _) (by omega) (by omega)) ?_
    refine S_val rfl rfl (Y_sliceLoV (und rfl) (siz rfl) rfl rfl (fun _ hs => Rd.st (by assumption) hs) (nat_cast _) (bel_le (by omega))) ?_
    refine S_val rfl rfl (Y_assign rfl) ?_
    refine S_nil ?_
    refine X_seq ?_
    refine T_seq ?_
    refine T_region ?_
    refine S_val rfl rfl (Y_move rfl) ?_
    refine S_val rfl rfl (Y_lenV rfl (und rfl) rfl (fun _ hs => Rd.st (by assumption) hs) (bel_length _ _)) ?_
    refine S_val rfl rfl (Y_subN rfl rfl (nat_lit' _) (nat_cast _) (Nat.le_of_ble_eq_true rfl) (Nat.le_of_ble_eq_true rfl)) ?_
    refine S_val rfl rfl (Y_sliceArrLo (und rfl) (siz rfl) rfl rfl (nat_cast _) (Nat.le_of_ble_eq_true rfl)) ?_
    refine S_val rfl rfl (Y_move rfl) ?_
    refine S_copyB 1 (kd := .u8) (m := bel 32 y) (n := 32) rfl (und rfl) (siz rfl) rfl rfl rfl (fun w hs => (by first | exact hs.rowRd 0 rfl | exact hs.rowRd 1 rfl | exact hs.rowRd 2 rfl | exact hs.rowRd 3 rfl | exact hs.rowRd 4 rfl | exact hs.rowRd 5 rfl | exact hs.rowRd 6 rfl | exact hs.rowRd 7 rfl | exact hs.rowRd 8 rfl | exact hs.rowRd 9 rfl | exact hs.rowRd 10 rfl | exact hs.rowRd 11 rfl | exact hs.rowRd 12 rfl | exact hs.rowRd 13 rfl | exact Rd.st (by assumption) hs)) (by rw [bel_length]; omega) (by rw [List.length_replicate]; split <;> omega) rfl rfl ?_
    rw [from_all 32 y (by omega) hy]
    refine S_nil ?_
    refine X_seq ?_
    refine T_seq ?_
    refine T_region ?_
    refine S_allocA (zer rfl) rfl rfl fun _ => ?_
    refine S_nil ?_
    refine X_seq ?_
    refine T_seq ?_
    refine T_seq ?_
    refine T_region ?_
    refine S_val rfl rfl (Y_move rfl) ?_
    refine S_nil ?_
    refine X_seq ?_
    refine T_block ?_
    rename_i b0 b1 b2
    refine T_loop (α := Nat × Nat) (fun a => a.1 ≤ 4 ∧ a.2 = y % 256 ^ (8 * a.1))
      (fun a => [(2, .pointer (some ⟨b0, 0, none⟩)), (3, .pointer (some ⟨b1, 0, none⟩)), (4, .pointer (some ⟨b2, 0, none⟩)), (21, .int .i64 a.1)])
      (fun a => [blk b0 (.cells (ints .u64 (List.replicate 4 0)) 47 (0, 0)), blk b1 (.cells (ints .u8 (bel 32 y)) 36 (0, 0)), blk b2 (.cells (ints .u64 (dl 18446744073709551616 4 (a.2))) 47 (0, 0))])
      (fun a => 4 - a.1) (0, 0) (by simp [Nat.mod_one]) (by repeat (first | exact Env.sub_nil _ | (apply Env.sub_cons; rfl))) [] rfl ?_
    rintro ⟨i, s⟩ ⟨hi, hs⟩
    dsimp only at hi hs ⊢
    by_cases h : i < 4
    · refine T_seq ?_
      refine T_region ?_
      refine S_val rfl rfl (Y_lss_t rfl rfl (by omega)) ?_
      refine S_nil ?_
      refine X_seq ?_
      refine T_seq ?_
      refine T_cond_true rfl ?_
      refine T_skip ?_
      refine X_seq ?_
      refine T_seq ?_
      refine T_block ?_
      refine T_seq ?_
      refine T_region ?_
      refine S_val rfl rfl (Y_move rfl) ?_
      refine S_val rfl rfl (Y_assign rfl) ?_
      refine S_nil ?_
      refine X_seq ?_
      refine T_seq ?_
      refine T_region ?_
      refine S_val rfl rfl (Y_move rfl) ?_
      refine S_nil ?_
      refine X_seq ?_
      refine T_block ?_
      refine T_loop (α := Nat × Nat) (fun a => a.1 ≤ 8 ∧ a.2 = y % 256 ^ (8 * i + a.1))
        (fun a => [(2, .pointer (some ⟨b0, 0, none⟩)), (3, .pointer (some ⟨b1, 0, none⟩)), (4, .pointer (some ⟨b2, 0, none⟩)), (5, .int .i64 i), (21, .int .i64 i), (24, .int .i64 a.1)])
        (fun a => [blk b0 (.cells (ints .u64 (List.replicate 4 0)) 47 (0, 0)), blk b1 (.cells (ints .u8 (bel 32 y)) 36 (0, 0)), blk b2 (.cells (ints .u64 (dl 18446744073709551616 4 (a.2))) 47 (0, 0))])
        (fun a => 8 - a.1) (0, s) (by simpa using hs) (by repeat (first | exact Env.sub_nil _ | (apply Env.sub_cons; rfl))) [] rfl ?_
      rintro ⟨k, t⟩ ⟨hk, ht⟩
      dsimp only at hk ht ⊢
      by_cases h2 : k < 8
      · have hc := dig256_lt y (32 - 1 - (31 - 8 * i - k))
        have ht2 : t / 256 ^ (8 * i + k) % 256 = 0 := by
          rw [ht, Nat.div_eq_of_lt (Nat.mod_lt _ (Nat.pow_pos (by omega)))]
        have hd := digit_lt t i
        have he : y % 256 ^ (8 * i + (k + 1)) = t + y / 256 ^ (32 - 1 - (31 - 8 * i - k)) % 256 * 256 ^ (8 * i + k) := by
          rw [← Nat.add_assoc, mod_pow_succ', ← ht, show 32 - 1 - (31 - 8 * i - k) = 8 * i + k by omega]
        have hw : y / 256 ^ (32 - 1 - (31 - 8 * i - k)) % 256 * 2 ^ (8 * k) % 18446744073709551616 < 18446744073709551616 := Nat.mod_lt _ (by omega)
        refine T_seq ?_
        refine T_region ?_
        refine S_val rfl rfl (Y_lss_t rfl rfl (by omega)) ?_
        refine S_nil ?_
        refine X_seq ?_
        refine T_seq ?_
        refine T_cond_true rfl ?_
        refine T_skip ?_
        refine X_seq ?_
        refine T_seq ?_
        refine T_block ?_
        refine T_seq ?_
        refine T_region ?_
        refine S_val rfl rfl (Y_move rfl) ?_
        refine S_val rfl rfl (Y_assign rfl) ?_
        refine S_nil ?_
        refine X_seq ?_
        refine T_drawP (.succ (.succ (.succ (.succ (.succ (.succ (.succ (.succ (.succ (.succ (.succ (.succ (.succ (.succ (.succ (.succ .zero)))))))))))))))) (by kernel_rfl) (by kernel_rfl) (by kernel_rfl) (by kernel_rfl) ?_
        refine D0_val rfl rfl rfl (Y_move rfl) ?_
        refine D0_val rfl rfl rfl (Y_ixa (und rfl) (siz rfl) rfl rfl (nat_cast _) (by assumption)) ?_
        refine D0_valM rfl rfl rfl (Y_loadI 2 (und rfl) rfl rfl rfl (dl_get (by assumption))) ?_
        refine D0_val rfl rfl rfl (Y_move rfl) ?_
        refine D0_val rfl rfl rfl (Y_mulN rfl rfl (nat_lit' _) (nat_cast _) (by omega)) ?_
        refine D0_val rfl rfl rfl (Y_subN rfl rfl (nat_lit' _) (nat_cast _) (by omega) (Nat.le_of_ble_eq_true rfl)) ?_
        refine D0_val rfl rfl rfl (Y_move rfl) ?_
        refine D0_val rfl rfl rfl (Y_subN rfl rfl (nat_cast _) (nat_cast _) (by omega) (by omega)) ?_
        refine D0_val rfl rfl rfl (Y_ixa (und rfl) (siz rfl) rfl rfl (nat_cast _) (by omega)) ?_
        refine D0_valM rfl rfl rfl (Y_loadI 1 (und rfl) rfl rfl rfl (bel_get (by omega))) ?_
        refine D0_valM rfl rfl rfl (Y_conv (und rfl) (und rfl) rfl (wu64 (by omega) (by omega))) ?_
        refine D0_val rfl rfl rfl (Y_move rfl) ?_
        refine D0_val rfl rfl rfl (Y_mulN rfl rfl (nat_lit' _) (nat_cast _) (by omega)) ?_
        refine D0_val rfl rfl rfl (Y_shlN rfl rfl (nat_cast _) (nat_cast _) rfl pw64) ?_
        refine D0_val rfl rfl rfl (Y_or rfl rfl (nat_cast _) (nat_cast _) rfl (by simp only [IntKind.bits]; assumption) (by simp only [IntKind.bits]; assumption)) ?_
        refine D0_val rfl rfl rfl (Y_ixa (und rfl) (siz rfl) rfl rfl (nat_cast _) (by assumption)) ?_
        refine D0_nilS ?_
        refine S_storeI 2 (siz rfl) rfl rfl rfl (by simp; omega) rfl rfl ?_
        refine S_nil ?_
        refine X_blk ?_
        refine X_seq ?_
        refine T_region ?_
        refine S_val rfl rfl (Y_addN rfl rfl (nat_cast _) (nat_lit' _) (by omega)) ?_
        refine S_val rfl rfl (Y_move rfl) ?_
        refine S_nil ?_
        refine X_loop ?_
        refine ⟨(k + 1, y % 256 ^ (8 * i + (k + 1))), ⟨by dsimp only; omega, rfl⟩, by dsimp only; omega, (by repeat (first | exact Env.sub_nil _ | (apply Env.sub_cons; rfl))), [], ?_⟩
        rw [he, ← lay8 h2 h ht2 hc]
        rfl
      · obtain rfl : k = 8 := by omega
        refine T_seq ?_
        refine T_region ?_
        refine S_val rfl rfl (Y_lss_f rfl rfl (by decide)) ?_
        refine S_nil ?_
        refine X_seq ?_
        refine T_seq ?_
        refine T_cond_false rfl ?_
        refine T_exit ?_
        refine X_seq_exit ?_
        refine X_loop_exit ?_
        refine X_blk_hit rfl ?_
        refine X_blk ?_
        refine X_seq ?_
        refine T_region ?_
        refine S_val rfl rfl (Y_addN rfl rfl (nat_cast _) (nat_lit' _) (by omega)) ?_
        refine S_val rfl rfl (Y_move rfl) ?_
        refine S_nil ?_
        refine X_loop ?_
        exact ⟨(i + 1, t), ⟨by dsimp only; omega, by dsimp only; rw [ht, Nat.mul_add]⟩, by dsimp only; omega, (by repeat (first | exact Env.sub_nil _ | (apply Env.sub_cons; rfl))), [], rfl⟩
    · obtain rfl : i = 4 := by omega
      refine T_seq ?_
      refine T_region ?_
      refine S_val rfl rfl (Y_lss_f rfl rfl (by decide)) ?_
      refine S_nil ?_
      refine X_seq ?_
      refine T_seq ?_
      refine T_cond_false rfl ?_
      refine T_exit ?_
      refine X_seq_exit ?_
      refine X_loop_exit ?_
      refine X_blk_hit rfl ?_
      refine X_seq ?_
      refine T_seq ?_
      refine T_region ?_
      refine S_val rfl rfl (Y_loadAI 2 (und rfl) rfl rfl rfl (siz rfl) (dl_length _ _ _)) ?_
      refine S_storeAI 0 (siz rfl) rfl rfl rfl rfl (dl_length _ _ _) rfl ?_
      refine S_nil ?_
      refine X_seq ?_
      refine T_ret ?_
      ((first | refine X_fin_ret ?_ | refine X_fin ?_); exact ⟨[_], [], .cons (.agg 0 rfl (und rfl) rfl rfl (siz rfl)) .nil, Emb.nil _, by rw [hs, Nat.mod_eq_of_lt hy]; rfl, rfl⟩)
  · have hy := hx
    have hx2 : x % 2 ^ 256 = x := Nat.mod_eq_of_lt (Nat.lt_of_lt_of_le hx (Nat.le_trans (Nat.pow_le_pow_right (by omega) (show n ≤ 32 by omega)) (by decide)))
    have hx3 : x % 256 ^ (8 * 4) = x := hx2
    rw [hx2]
    clear hx
    refine Fn_of (args := [v]) Tryd.func26 rfl Tryd.ntmps26 Tryd.results26 (by simp) ?_
    refine T_seq ?_
    refine T_region ?_
    refine S_allocA (zer rfl) rfl rfl fun _ => ?_
    refine S_nil ?_
    refine X_seq ?_
    refine T_seq ?_
    refine T_region ?_
    refine S_allocA (zer rfl) rfl rfl fun _ => ?_
    refine S_nil ?_
    refine X_seq ?_
    refine T_seq ?_
    refine T_seq ?_
    refine T_region ?_
    refine S_val rfl rfl (Y_move rfl) ?_
    refine S_val rfl rfl (Y_lenV rfl (und rfl) rfl (fun _ hs => Rd.st (by assumption) hs) (bel_length _ _)) ?_
    refine S_val rfl rfl (Y_gtr_f rfl rfl (by omega)) ?_
    refine S_nil ?_
    refine X_seq ?_
    refine T_cond_false rfl ?_
    refine T_skip ?_
    refine X_seq ?_
    refine T_seq ?_
    refine T_region ?_
    refine S_val rfl rfl (Y_move rfl) ?_
    refine S_val rfl rfl (Y_lenV rfl (und rfl) rfl (fun _ hs => Rd.st (by assumption) hs) (bel_length _ _)) ?_
    refine S_val rfl rfl (Y_subN rfl rfl (nat_lit' _) (nat_cast _) (by omega) (Nat.le_of_ble_eq_true rfl)) ?_
    refine S_val rfl rfl (Y_sliceArrLo (und rfl) (siz rfl) rfl rfl (nat_cast _) (by omega)) ?_
    refine S_val rfl rfl (Y_move rfl) ?_
    refine S_copyB 1 (kd := .u8) (m := bel n x) (n := n) rfl (und rfl) (siz rfl) rfl rfl rfl (fun w hs => (by first | exact hs.rowRd 0 rfl | exact hs.rowRd 1 rfl | exact hs.rowRd 2 rfl | exact hs.rowRd 3 rfl | exact hs.rowRd 4 rfl | exact hs.rowRd 5 rfl | exact hs.rowRd 6 rfl | exact hs.rowRd 7 rfl | exact hs.rowRd 8 rfl | exact hs.rowRd 9 rfl | exact hs.rowRd 10 rfl | exact hs.rowRd 11 rfl | exact hs.rowRd 12 rfl | exact hs.rowRd 13 rfl | exact Rd.st (by assumption) hs)) (by rw [bel_length]; omega) (by rw [List.length_replicate]; split <;> omega) rfl rfl ?_
    rw [from_all n x (by omega) hy]
    refine S_nil ?_
    refine X_seq ?_
    refine T_seq ?_
    refine T_region ?_
    refine S_allocA (zer rfl) rfl rfl fun _ => ?_
    refine S_nil ?_
    refine X_seq ?_
    refine T_seq ?_
    refine T_seq ?_
    refine T_region ?_
    refine S_val rfl rfl (Y_move rfl) ?_
    refine S_nil ?_
    refine X_seq ?_
    refine T_block ?_
    rename_i b0 b1 b2
    refine T_loop (α := Nat × Nat) (fun a => a.1 ≤ 4 ∧ a.2 = x % 256 ^ (8 * a.1))
      (fun a => [(2, .pointer (some ⟨b0, 0, none⟩)), (3, .pointer (some ⟨b1, 0, none⟩)), (4, .pointer (some ⟨b2, 0, none⟩)), (21, .int .i64 a.1)])
      (fun a => [blk b0 (.cells (ints .u64 (List.replicate 4 0)) 47 (0, 0)), blk b1 (.cells (ints .u8 (bel 32 x)) 36 (0, 0)), blk b2 (.cells (ints .u64 (dl 18446744073709551616 4 (a.2))) 47 (0, 0))])
      (fun a => 4 - a.1) (0, 0) (by simp [Nat.mod_one]) (by repeat (first | exact Env.sub_nil _ | (apply Env.sub_cons; rfl))) [] rfl ?_
    rintro ⟨i, s⟩ ⟨hi, hs⟩
    dsimp only at hi hs ⊢
    by_cases h : i < 4
    · refine T_seq ?_
      refine T_region ?_
      refine S_val rfl rfl (Y_lss_t rfl rfl (by omega)) ?_
      refine S_nil ?_
      refine X_seq ?_
      refine T_seq ?_
      refine T_cond_true rfl ?_
      refine T_skip ?_
      refine X_seq ?_
      refine T_seq ?_
      refine T_block ?_
      refine T_seq ?_
      refine T_region ?_
      refine S_val rfl rfl (Y_move rfl) ?_
      refine S_val rfl rfl (Y_assign rfl) ?_
      refine S_nil ?_
      refine X_seq ?_
      refine T_seq ?_
      refine T_region ?_
      refine S_val rfl rfl (Y_move rfl) ?_
      refine S_nil ?_
      refine X_seq ?_
      refine T_block ?_
      refine T_loop (α := Nat × Nat) (fun a => a.1 ≤ 8 ∧ a.2 = x % 256 ^ (8 * i + a.1))
        (fun a => [(2, .pointer (some ⟨b0, 0, none⟩)), (3, .pointer (some ⟨b1, 0, none⟩)), (4, .pointer (some ⟨b2, 0, none⟩)), (5, .int .i64 i), (21, .int .i64 i), (24, .int .i64 a.1)])
        (fun a => [blk b0 (.cells (ints .u64 (List.replicate 4 0)) 47 (0, 0)), blk b1 (.cells (ints .u8 (bel 32 x)) 36 (0, 0)), blk b2 (.cells (ints .u64 (dl 18446744073709551616 4 (a.2))) 47 (0, 0))])
        (fun a => 8 - a.1) (0, s) (by simpa using hs) (by repeat (first | exact Env.sub_nil _ | (apply Env.sub_cons; rfl))) [] rfl ?_
      rintro ⟨k, t⟩ ⟨hk, ht⟩
      dsimp only at hk ht ⊢
      by_cases h2 : k < 8
      · have hc := dig256_lt x (32 - 1 - (31 - 8 * i - k))
        have ht2 : t / 256 ^ (8 * i + k) % 256 = 0 := by
          rw [ht, Nat.div_eq_of_lt (Nat.mod_lt _ (Nat.pow_pos (by omega)))]
        have hd := digit_lt t i
        have he : x % 256 ^ (8 * i + (k + 1)) = t + x / 256 ^ (32 - 1 - (31 - 8 * i - k)) % 256 * 256 ^ (8 * i + k) := by
          rw [← Nat.add_assoc, mod_pow_succ', ← ht, show 32 - 1 - (31 - 8 * i - k) = 8 * i + k by omega]
        have hw : x / 256 ^ (32 - 1 - (31 - 8 * i - k)) % 256 * 2 ^ (8 * k) % 18446744073709551616 < 18446744073709551616 := Nat.mod_lt _ (by omega)
        refine T_seq ?_
        refine T_region ?_
        refine S_val rfl rfl (Y_lss_t rfl rfl (by omega)) ?_
        refine S_nil ?_
        refine X_seq ?_
        refine T_seq ?_
        refine T_cond_true rfl ?_
        refine T_skip ?_
        refine X_seq ?_
        refine T_seq ?_
        refine T_block ?_
        refine T_seq ?_
        refine T_region ?_
        refine S_val rfl rfl (Y_move rfl) ?_
        refine S_val rfl rfl (Y_assign rfl) ?_
        refine S_nil ?_
        refine X_seq ?_
        refine T_drawP (.succ (.succ (.succ (.succ (.succ (.succ (.succ (.succ (.succ (.succ (.succ (.succ (.succ (.succ (.succ (.succ .zero)))))))))))))))) (by kernel_rfl) (by kernel_rfl) (by kernel_rfl) (by kernel_rfl) ?_
        refine D0_val rfl rfl rfl (Y_move rfl) ?_
        refine D0_val rfl rfl rfl (Y_ixa (und rfl) (siz rfl) rfl rfl (nat_cast _) (by assumption)) ?_
        refine D0_valM rfl rfl rfl (Y_loadI 2 (und rfl) rfl rfl rfl (dl_get (by assumption))) ?_
        refine D0_val rfl rfl rfl (Y_move rfl) ?_
        refine D0_val rfl rfl rfl (Y_mulN rfl rfl (nat_lit' _) (nat_cast _) (by omega)) ?_
        refine D0_val rfl rfl rfl (Y_subN rfl rfl (nat_lit' _) (nat_cast _) (by omega) (Nat.le_of_ble_eq_true rfl)) ?_
        refine D0_val rfl rfl rfl (Y_move rfl) ?_
        refine D0_val rfl rfl rfl (Y_subN rfl rfl (nat_cast _) (nat_cast _) (by omega) (by omega)) ?_
        refine D0_val rfl rfl rfl (Y_ixa (und rfl) (siz rfl) rfl rfl (nat_cast _) (by omega)) ?_
        refine D0_valM rfl rfl rfl (Y_loadI 1 (und rfl) rfl rfl rfl (bel_get (by omega))) ?_
        refine D0_valM rfl rfl rfl (Y_conv (und rfl) (und rfl) rfl (wu64 (by omega) (by omega))) ?_
        refine D0_val rfl rfl rfl (Y_move rfl) ?_
        refine D0_val rfl rfl rfl (Y_mulN rfl rfl (nat_lit' _) (nat_cast _) (by omega)) ?_
        refine D0_val rfl rfl rfl (Y_shlN rfl rfl (nat_cast _) (nat_cast _) rfl pw64) ?_
        refine D0_val rfl rfl rfl (Y_or rfl rfl (nat_cast _) (nat_cast _) rfl (by simp only [IntKind.bits]; assumption) (by simp only [IntKind.bits]; assumption)) ?_
        refine D0_val rfl rfl rfl (Y_ixa (und rfl) (siz rfl) rfl rfl (nat_cast _) (by assumption)) ?_
        refine D0_nilS ?_
        refine S_storeI 2 (siz rfl) rfl rfl rfl (by simp; omega) rfl rfl ?_
        refine S_nil ?_
        refine X_blk ?_
        refine X_seq ?_
        refine T_region ?_
        refine S_val rfl rfl (Y_addN rfl rfl (nat_cast _) (nat_lit' _) (by omega)) ?_
        refine S_val rfl rfl (Y_move rfl) ?_
        refine S_nil ?_
        refine X_loop ?_
        refine ⟨(k + 1, x % 256 ^ (8 * i + (k + 1))), ⟨by dsimp only; omega, rfl⟩, by dsimp only; omega, (by repeat (first | exact Env.sub_nil _ | (apply Env.sub_cons; rfl))), [], ?_⟩
        rw [he, ← lay8 h2 h ht2 hc]
        rfl
      · obtain rfl : k = 8 := by omega
        refine T_seq ?_
        refine T_region ?_
        refine S_val rfl rfl (Y_lss_f rfl rfl (by decide)) ?_
        refine S_nil ?_
        refine X_seq ?_
        refine T_seq ?_
        refine T_cond_false rfl ?_
        refine T_exit ?_
        refine X_seq_exit ?_
        refine X_loop_exit ?_
        refine X_blk_hit rfl ?_
        refine X_blk ?_
        refine X_seq ?_
        refine T_region ?_
        refine S_val rfl rfl (Y_addN rfl rfl (nat_cast _) (nat_lit' _) (by omega)) ?_
        refine S_val rfl rfl (Y_move rfl) ?_
        refine S_nil ?_
        refine X_loop ?_
        exact ⟨(i + 1, t), ⟨by dsimp only; omega, by dsimp only; rw [ht, Nat.mul_add]⟩, by dsimp only; omega, (by repeat (first | exact Env.sub_nil _ | (apply Env.sub_cons; rfl))), [], rfl⟩
    · obtain rfl : i = 4 := by omega
      refine T_seq ?_
      refine T_region ?_
      refine S_val rfl rfl (Y_lss_f rfl rfl (by decide)) ?_
      refine S_nil ?_
      refine X_seq ?_
      refine T_seq ?_
      refine T_cond_false rfl ?_
      refine T_exit ?_
      refine X_seq_exit ?_
      refine X_loop_exit ?_
      refine X_blk_hit rfl ?_
      refine X_seq ?_
      refine T_seq ?_
      refine T_region ?_
      refine S_val rfl rfl (Y_loadAI 2 (und rfl) rfl rfl rfl (siz rfl) (dl_length _ _ _)) ?_
      refine S_storeAI 0 (siz rfl) rfl rfl rfl rfl (dl_length _ _ _) rfl ?_
      refine S_nil ?_
      refine X_seq ?_
      refine T_ret ?_
      ((first | refine X_fin_ret ?_ | refine X_fin ?_); exact ⟨[_], [], .cons (.agg 0 rfl (und rfl) rfl rfl (siz rfl)) .nil, Emb.nil _, by rw [hs, hx3]; rfl, rfl⟩)
theorem rfrom_any (n x : Nat) (hx : x < 256 ^ n) (hn : n ≤ 9223372036854775807) (v : Value) (w : World) (hr : Rd w v .u8 (bel n x)) : Fn Tryd.prog 51 #[v] w fun u N => u = D x ∧ N = [] := by
  refine Fn_of (args := [v]) Tryd.func51 rfl Tryd.ntmps51 Tryd.results51 (by simp) ?_
  refine T_seq ?_
  refine T_region ?_
  refine S_allocA (zer rfl) rfl rfl fun _ => ?_
  refine S_nil ?_
  refine X_seq ?_
  refine T_seq ?_
  refine T_region ?_
  refine S_val rfl rfl (Y_build (und rfl) (siz rfl) (zer rfl) rfl rfl) ?_
  refine S_allocA (zer rfl) rfl rfl fun _ => ?_
  refine S_storeAI 1 (siz rfl) rfl rfl rfl rfl rfl rfl ?_
  refine S_nil ?_
  refine X_seq ?_
  refine T_seq ?_
  refine T_seq ?_
  refine T_region ?_
  refine S_val rfl rfl (Y_assign rfl) ?_
  refine S_nil ?_
  refine X_seq ?_
  refine T_block ?_
  rename_i b0 b1
  refine T_loop (α := Nat × Nat) (fun a => a.1 ≤ 32 ∧ a.1 ≤ n ∧ a.2 = x % 256 ^ a.1)
    (fun a => [(0, v), (2, .pointer (some ⟨b0, 0, none⟩)), (3, .pointer (some ⟨b1, 0, none⟩)), (4, .int .i64 a.1)])
    (fun a => [blk b0 (.cells (ints .i64 (List.replicate 32 0)) 89 (0, 0)), blk b1 (.cells (ints .i64 (dl 256 32 (a.2))) 89 (0, 0))])
    (fun a => 32 - a.1) (0, 0) (by simp [Nat.mod_one]) (by repeat (first | exact Env.sub_nil _ | (apply Env.sub_cons; rfl))) [] rfl ?_
  rintro ⟨i, s⟩ ⟨hi, hin, hs⟩
  dsimp only at hi hin hs ⊢
  by_cases h : i < 32
  · by_cases h2 : i < n
    · have hc := dig256_lt x (n - 1 - (n - 1 - i))
      have hc2 := dig256_lt x i
      refine T_seq ?_
      refine T_seq ?_
      refine T_region ?_
      refine S_val rfl rfl (Y_move rfl) ?_
      refine S_val rfl rfl (Y_lss_t rfl rfl (by omega)) ?_
      refine S_val rfl rfl (Y_move rfl) ?_
      refine S_val rfl rfl (Y_move rfl) ?_
      refine S_val rfl rfl (Y_move rfl) ?_
      refine S_val rfl rfl (Y_lenV rfl (und rfl) rfl (fun _ hs => Rd.st (by assumption) hs) (bel_length _ _)) ?_
      refine S_val rfl rfl (Y_lss_t rfl rfl (by omega)) ?_
      refine S_val rfl rfl (Y_pick_t rfl rfl) ?_
      refine S_nil ?_
      refine X_seq ?_
      refine T_cond_true rfl ?_
      refine T_skip ?_
      refine X_seq ?_
      refine T_seq ?_
      refine T_block ?_
      refine T_region ?_
      refine S_val rfl rfl (Y_move rfl) ?_
      refine S_val rfl rfl (Y_move rfl) ?_
      refine S_val rfl rfl (Y_move rfl) ?_
      refine S_val rfl rfl (Y_lenV rfl (und rfl) rfl (fun _ hs => Rd.st (by assumption) hs) (bel_length _ _)) ?_
      refine S_val rfl rfl (Y_subN rfl rfl (nat_cast _) (nat_lit' _) (by omega) (by omega)) ?_
      refine S_val rfl rfl (Y_move rfl) ?_
      refine S_val rfl rfl (Y_subN rfl rfl (nat_cast _) (nat_cast _) (by omega) (by omega)) ?_
      refine S_val rfl rfl (Y_ixV (und rfl) (siz rfl) rfl rfl (fun _ hs => Rd.st (by assumption) hs) (nat_cast _) (by simp; omega)) ?_
      refine S_val rfl rfl (Y_loadV (und rfl) rfl rfl (fun _ hs => Rd.st (by assumption) hs) (bel_get (by omega))) ?_
      refine S_val rfl rfl (Y_conv (und rfl) (und rfl) rfl (wi64 (by omega) (by omega))) ?_
      refine S_val rfl rfl (Y_ixa (und rfl) (siz rfl) rfl rfl (nat_cast _) (by assumption)) ?_
      refine S_storeI 1 (siz rfl) rfl rfl rfl (by simp; omega) rfl rfl ?_
      refine S_nil ?_
      refine X_blk ?_
      refine X_seq ?_
      refine T_region ?_
      refine S_val rfl rfl (Y_move rfl) ?_
      refine S_val rfl rfl (Y_addN rfl rfl (nat_cast _) (nat_lit' _) (by omega)) ?_
      refine S_val rfl rfl (Y_assign rfl) ?_
      refine S_nil ?_
      refine X_loop ?_
      refine ⟨(i + 1, x % 256 ^ (i + 1)), ⟨by dsimp only; omega, by dsimp only; omega, rfl⟩, by dsimp only; omega, (by repeat (first | exact Env.sub_nil _ | (apply Env.sub_cons; rfl))), [], ?_⟩
      rw [show n - 1 - (n - 1 - i) = i by omega, dl_set (by omega) (by rw [hs]; exact Nat.mod_lt _ (Nat.pow_pos (by omega))) hc2, hs, ← mod_pow_succ']
      rfl
    · obtain rfl : i = n := by omega
      refine T_seq ?_
      refine T_seq ?_
      refine T_region ?_
      refine S_val rfl rfl (Y_move rfl) ?_
      refine S_val rfl rfl (Y_lss_t rfl rfl (by omega)) ?_
      refine S_val rfl rfl (Y_move rfl) ?_
      refine S_val rfl rfl (Y_move rfl) ?_
      refine S_val rfl rfl (Y_move rfl) ?_
      refine S_val rfl rfl (Y_lenV rfl (und rfl) rfl (fun _ hs => Rd.st (by assumption) hs) (bel_length _ _)) ?_
      refine S_val rfl rfl (Y_lss_f rfl rfl (by omega)) ?_
      refine S_val rfl rfl (Y_pick_t rfl rfl) ?_
      refine S_nil ?_
      refine X_seq ?_
      refine T_cond_false rfl ?_
      refine T_exit ?_
      refine X_seq_exit ?_
      refine X_loop_exit ?_
      refine X_blk_hit rfl ?_
      refine X_seq ?_
      refine T_seq ?_
      refine T_region ?_
      refine S_val rfl rfl (Y_loadAI 1 (und rfl) rfl rfl rfl (siz rfl) (dl_length _ _ _)) ?_
      refine S_storeAI 0 (siz rfl) rfl rfl rfl rfl (dl_length _ _ _) rfl ?_
      refine S_nil ?_
      refine X_seq ?_
      refine T_ret ?_
      ((first | refine X_fin_ret ?_ | refine X_fin ?_); exact ⟨[_], [], .cons (.agg 0 rfl (und rfl) rfl rfl (siz rfl)) .nil, Emb.nil _, by rw [hs, Nat.mod_eq_of_lt hx]; rfl, rfl⟩)
  · obtain rfl : i = 32 := by omega
    refine T_seq ?_
    refine T_seq ?_
    refine T_region ?_
    refine S_val rfl rfl (Y_move rfl) ?_
    refine S_val rfl rfl (Y_lss_f rfl rfl (by decide)) ?_
    refine S_val rfl rfl (Y_move rfl) ?_
    refine S_skip rfl rfl ?_
    refine S_skip rfl rfl ?_
    refine S_skip rfl rfl ?_
    refine S_skip rfl rfl ?_
    refine S_val rfl rfl (Y_pick_f rfl rfl) ?_
    refine S_nil ?_
    refine X_seq ?_
    refine T_cond_false rfl ?_
    refine T_exit ?_
    refine X_seq_exit ?_
    refine X_loop_exit ?_
    refine X_blk_hit rfl ?_
    refine X_seq ?_
    refine T_seq ?_
    refine T_region ?_
    refine S_val rfl rfl (Y_loadAI 1 (und rfl) rfl rfl rfl (siz rfl) (dl_length _ _ _)) ?_
    refine S_storeAI 0 (siz rfl) rfl rfl rfl rfl (dl_length _ _ _) rfl ?_
    refine S_nil ?_
    refine X_seq ?_
    refine T_ret ?_
    ((first | refine X_fin_ret ?_ | refine X_fin ?_); exact ⟨[_], [], .cons (.agg 0 rfl (und rfl) rfl rfl (siz rfl)) .nil, Emb.nil _, by rw [hs]; unfold D; rw [dl_mod]; rfl, rfl⟩)
end Go.Proofs.YtchoncjikdfbgaaDoor
