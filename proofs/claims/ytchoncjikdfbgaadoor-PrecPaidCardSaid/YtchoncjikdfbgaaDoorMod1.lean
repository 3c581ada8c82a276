import Derived.Test.YtchoncjikdfbgaaDoorNums2
import Derived.Test.YtchoncjikdfbgaaDoorStrs
import Derived.Test.YtchoncjikdfbgaaDoorRef1
/- Package modexp: numbers to the base 2^32; the first half. -/
namespace Go.Proofs.YtchoncjikdfbgaaDoor
open Go.RowKit
set_option maxRecDepth 20000
set_option maxHeartbeats 4000000

theorem dig32_lt (x i : Nat) : x / 4294967296 ^ i % 4294967296 < 4294967296 := Nat.mod_lt _ (by omega)
theorem row.trim {x m : Nat} {v : Value} {h : PH} (hr : row .u32 (dl 4294967296 m x) v h) (hm : tr x ≤ m) : row .u32 (dl 4294967296 (tr x) x) (vTake (tr x) v) h := by
  have := hr.take (n := tr x) (by rwa [dl_length])
  rwa [dl_take _ _ _ _ hm] at this
theorem trim_any (x m : Nat) (hx : x < 4294967296 ^ m) (hm : m ≤ 1000000) (v : Value) (w : World) (hr : Rd w v .u32 (dl 4294967296 m x)) : Fn Tryd.prog 74 #[v] w fun u N => u = vTake (tr x) v ∧ N = [] := by
  refine Fn_of (args := [v]) Tryd.func74 rfl Tryd.ntmps74 Tryd.results74 (by simp) ?_
  refine T_seq ?_
  refine T_region ?_
  refine S_val rfl rfl (Y_assign rfl) ?_
  refine S_nil ?_
  refine X_seq ?_
  refine T_seq ?_
  refine T_region ?_
  refine S_val rfl rfl (Y_move rfl) ?_
  refine S_val rfl rfl (Y_lenV rfl (und rfl) rfl (fun _ hs => Rd.st (by assumption) hs) (dl_length _ _ _)) ?_
  refine S_val rfl rfl (Y_assign rfl) ?_
  refine S_nil ?_
  refine X_seq ?_
  refine T_seq ?_
  refine T_block ?_
  refine T_loop (α := Nat) (fun j => j ≤ m ∧ x < 4294967296 ^ j)
    (fun j => [(0, v), (3, .int .i64 j)])
    (fun j => [])
    (fun j => j) m ⟨Nat.le_refl _, hx⟩ (by repeat (first | exact Env.sub_nil _ | (apply Env.sub_cons; rfl))) [] rfl ?_
  rintro j ⟨hj, hxj⟩
  by_cases h : j = 0
  · subst h
    have hx0 : x = 0 := by simpa using hxj
    refine T_seq ?_
    refine T_seq ?_
    refine T_region ?_
    refine S_val rfl rfl (Y_move rfl) ?_
    refine S_val rfl rfl (Y_gtr_f rfl rfl (by decide)) ?_
    refine S_val rfl rfl (Y_move rfl) ?_
    refine S_skip rfl rfl ?_
    refine S_skip rfl rfl ?_
    refine S_skip rfl rfl ?_
    refine S_skip rfl rfl ?_
    refine S_skip rfl rfl ?_
    refine S_skip rfl rfl ?_
    refine S_val rfl rfl (Y_pick_f rfl rfl) ?_
    refine S_nil ?_
    refine X_seq ?_
    refine T_cond_false rfl ?_
    refine T_exit ?_
    refine X_seq_exit ?_
    refine X_loop_exit ?_
    refine X_blk_hit rfl ?_
    refine X_seq ?_
    refine T_seq ?_
    refine T_region ?_
    refine S_val rfl rfl (Y_move rfl) ?_
    refine S_val rfl rfl (Y_move rfl) ?_
    refine S_val rfl rfl (Y_sliceHiV (und rfl) (siz rfl) rfl rfl (fun _ hs => Rd.st (by assumption) hs) (nat_cast _) (dl_le (Nat.le_of_ble_eq_true rfl))) ?_
    refine S_val rfl rfl (Y_assign rfl) ?_
    refine S_nil ?_
    refine X_seq ?_
    refine T_ret ?_
    ((first | refine X_fin_ret ?_ | refine X_fin ?_); exact ⟨[_], [], .cons (.tmp rfl) .nil, Emb.nil _, by rw [hx0]; rfl, rfl⟩)
  · obtain ⟨i, rfl⟩ : ∃ i, j = i + 1 := ⟨j - 1, by omega⟩
    by_cases h2 : x / 4294967296 ^ i % 4294967296 = 0
    · have h3 : ((x / 4294967296 ^ (i + 1 - 1) % 4294967296 : Nat) : Int) = 0 := by rw [Nat.add_sub_cancel, h2]; rfl
      refine T_seq ?_
      refine T_seq ?_
      refine T_region ?_
      refine S_val rfl rfl (Y_move rfl) ?_
      refine S_val rfl rfl (Y_gtr_t rfl rfl (by omega)) ?_
      refine S_val rfl rfl (Y_move rfl) ?_
      refine S_val rfl rfl (Y_move rfl) ?_
      refine S_val rfl rfl (Y_move rfl) ?_
      refine S_val rfl rfl (Y_subN rfl rfl (nat_cast _) (nat_lit' _) (Nat.le_of_ble_eq_true rfl) (by omega)) ?_
      refine S_val rfl rfl (Y_ixV (und rfl) (siz rfl) rfl rfl (fun _ hs => Rd.st (by assumption) hs) (nat_cast _) (dl_lt (by assumption))) ?_
      refine S_val rfl rfl (Y_loadV (und rfl) rfl rfl (fun _ hs => Rd.st (by assumption) hs) (dl_get (by assumption))) ?_
      refine S_val rfl rfl (Y_eql_t rfl rfl (by assumption)) ?_
      refine S_val rfl rfl (Y_pick_t rfl rfl) ?_
      refine S_nil ?_
      refine X_seq ?_
      refine T_cond_true rfl ?_
      refine T_skip ?_
      refine X_seq ?_
      refine T_block ?_
      refine T_region ?_
      refine S_val rfl rfl (Y_move rfl) ?_
      refine S_val rfl rfl (Y_subN rfl rfl (nat_cast _) (nat_lit' _) (Nat.le_of_ble_eq_true rfl) (by omega)) ?_
      refine S_val rfl rfl (Y_assign rfl) ?_
      refine S_nil ?_
      refine X_blk ?_
      refine X_loop ?_
      exact ⟨i, ⟨by omega, tr_cut hxj h2⟩, by omega, (by repeat (first | exact Env.sub_nil _ | (apply Env.sub_cons; rfl))), [], rfl⟩
    · have h3 : ¬ ((x / 4294967296 ^ (i + 1 - 1) % 4294967296 : Nat) : Int) = 0 := by rw [Nat.add_sub_cancel]; omega
      refine T_seq ?_
      refine T_seq ?_
      refine T_region ?_
      refine S_val rfl rfl (Y_move rfl) ?_
      refine S_val rfl rfl (Y_gtr_t rfl rfl (by omega)) ?_
      refine S_val rfl rfl (Y_move rfl) ?_
      refine S_val rfl rfl (Y_move rfl) ?_
      refine S_val rfl rfl (Y_move rfl) ?_
      refine S_val rfl rfl (Y_subN rfl rfl (nat_cast _) (nat_lit' _) (Nat.le_of_ble_eq_true rfl) (by omega)) ?_
      refine S_val rfl rfl (Y_ixV (und rfl) (siz rfl) rfl rfl (fun _ hs => Rd.st (by assumption) hs) (nat_cast _) (dl_lt (by assumption))) ?_
      refine S_val rfl rfl (Y_loadV (und rfl) rfl rfl (fun _ hs => Rd.st (by assumption) hs) (dl_get (by assumption))) ?_
      refine S_val rfl rfl (Y_eql_f rfl rfl (by assumption)) ?_
      refine S_val rfl rfl (Y_pick_t rfl rfl) ?_
      refine S_nil ?_
      refine X_seq ?_
      refine T_cond_false rfl ?_
      refine T_exit ?_
      refine X_seq_exit ?_
      refine X_loop_exit ?_
      refine X_blk_hit rfl ?_
      refine X_seq ?_
      refine T_seq ?_
      refine T_region ?_
      refine S_val rfl rfl (Y_move rfl) ?_
      refine S_val rfl rfl (Y_move rfl) ?_
      refine S_val rfl rfl (Y_sliceHiV (und rfl) (siz rfl) rfl rfl (fun _ hs => Rd.st (by assumption) hs) (nat_cast _) (dl_le (by assumption))) ?_
      refine S_val rfl rfl (Y_assign rfl) ?_
      refine S_nil ?_
      refine X_seq ?_
      refine T_ret ?_
      ((first | refine X_fin_ret ?_ | refine X_fin ?_); exact ⟨[_], [], .cons (.tmp rfl) .nil, Emb.nil _, by rw [tr_end hxj h2]; rfl, rfl⟩)
theorem bel_set {n y d t : Nat} (hy : y < 256 ^ t) (hd : d < 256) (ht : t < n) : (bel n y).set (n - 1 - t) ((d : Nat) : Int) = bel n (y + d * 256 ^ t) := by
  apply List.ext_getElem?
  intro i
  rw [List.getElem?_set, bel_length]
  by_cases hi : i < n
  · rw [bel_get hi, bel_get hi, digit_add_lt (by omega) hy hd]
    by_cases h : n - 1 - t = i
    · subst h
      rw [if_pos rfl, if_pos (by omega), if_neg (by omega), if_pos (by omega)]
    · rw [if_neg h]
      split
      · rfl
      · rename_i h2
        rw [if_neg (by omega), Nat.div_eq_of_lt (Nat.lt_of_lt_of_le hy (Nat.pow_le_pow_right (by omega) (by omega)))]
  · rw [List.getElem?_eq_none (by simp; omega), List.getElem?_eq_none (by simp; omega)]
    split
    · rw [if_neg (by omega)]
    · rfl
theorem byte32 (x t e : Nat) (he : e < 4) : x / 4294967296 ^ t % 4294967296 / 2 ^ (8 * e) % 256 = x / 256 ^ (4 * t + e) % 256 := by
  rw [show (4294967296 : Nat) = 256 ^ 4 by decide, ← Nat.pow_mul, Nat.pow_mul 2 8 e, show (2 : Nat) ^ 8 = 256 by decide, Nat.pow_add 256 (4 * t) e, ← Nat.div_div_eq_div_mul]
  generalize x / 256 ^ (4 * t) = z
  have h := digit_mod 256 4 z e he
  exact h
theorem pow_cut (x i k : Nat) : x / 256 ^ k * 256 ^ k = x / 256 ^ (k + 1) * 256 ^ (k + 1) + x / 256 ^ k % 256 * 256 ^ k := by
  have h := Nat.div_add_mod (x / 256 ^ k) 256
  rw [Nat.div_div_eq_div_mul, ← Nat.pow_succ] at h
  conv => lhs; rw [← h]
  rw [Nat.add_mul, Nat.pow_succ, Nat.mul_comm 256 (x / _), Nat.mul_assoc, Nat.mul_comm 256 (256 ^ k)]
theorem mof_any (n x : Nat) (hx : x < 256 ^ n) (hn : n ≤ 1000000) (v : Value) (w : World) (hr : Rd w v .u8 (bel n x)) : Fn Tryd.prog 57 #[v] w fun u N => N = [row .u32 (dl 4294967296 (tr x) x) u] := by
  have hxm : x < 4294967296 ^ ((n + 3) / 4) := by
    rw [show (4294967296 : Nat) = 256 ^ 4 by decide, ← Nat.pow_mul]
    exact Nat.lt_of_lt_of_le hx (Nat.pow_le_pow_right (by omega) (by omega))
  have htr := tr_le hxm
  refine Fn_of (args := [v]) Tryd.func57 rfl Tryd.ntmps57 Tryd.results57 (by simp) ?_
  refine T_seq ?_
  refine T_region ?_
  refine S_val rfl rfl (Y_assign rfl) ?_
  refine S_nil ?_
  refine X_seq ?_
  refine T_seq ?_
  refine T_region ?_
  refine S_val rfl rfl (Y_move rfl) ?_
  refine S_val rfl rfl (Y_lenV rfl (und rfl) rfl (fun _ hs => Rd.st (by assumption) hs) (bel_length _ _)) ?_
  refine S_val rfl rfl (Y_addN rfl rfl (nat_cast _) (nat_lit' _) (by omega)) ?_
  refine S_val rfl rfl (Y_quoN rfl rfl (nat_cast _) (nat_lit' _) (Nat.succ_ne_zero _) (by first | with_reducible exact xi64 (by omega) | with_reducible exact x64 (by omega) | with_reducible exact x8 (by omega) | with_reducible exact x32 (by omega))) ?_
  refine S_makeR (und rfl) (siz rfl) (byt rfl) (zer rfl) rfl rfl (nat_cast _) (by omega) rfl rfl rfl fun _ => ?_
  refine S_val rfl rfl (Y_assign rfl) ?_
  refine S_nil ?_
  refine X_seq ?_
  refine T_seq ?_
  refine T_seq ?_
  refine T_region ?_
  refine S_val rfl rfl (Y_move rfl) ?_
  refine S_val rfl rfl (Y_lenV rfl (und rfl) rfl (fun _ hs => Rd.st (by assumption) hs) (bel_length _ _)) ?_
  refine S_val rfl rfl (Y_move rfl) ?_
  refine S_nil ?_
  refine X_seq ?_
  refine T_block ?_
  rename_i vo
  refine T_loop (α := Nat) (fun i => i ≤ n)
    (fun i => [(0, v), (3, vo), (12, v), (13, .int .i64 n), (14, .int .i64 i)])
    (fun i => [row .u32 (dl 4294967296 ((n + 3) / 4) (x / 256 ^ (n - i) * 256 ^ (n - i))) vo])
    (fun i => n - i) 0 (by omega) (by repeat (first | exact Env.sub_nil _ | (apply Env.sub_cons; rfl))) [] (by rw [Nat.sub_zero, Nat.div_eq_of_lt hx, Nat.zero_mul, dl_zero]; rfl) ?_
  intro i hi
  refine T_sh 0 rfl fun hsh => ?_
  rw [dl_length] at hsh
  by_cases h : i < n
  · obtain ⟨k, hk⟩ : ∃ k, k = n - 1 - i := ⟨_, rfl⟩
    have hy : x / 256 ^ (n - i) * 256 ^ (n - i) / 256 ^ k % 256 = 0 := by
      rw [show n - i = k + 1 by omega, Nat.pow_succ, Nat.mul_comm (256 ^ k) 256, ← Nat.mul_assoc, Nat.mul_div_cancel _ (Nat.pow_pos (by omega)), Nat.mul_mod_left]
    have hc : x / 256 ^ (n - 1 - i) % 256 < 256 := Nat.mod_lt _ (by omega)
    have hl := lay4 (n := (n + 3) / 4) (t := k) (by omega) hy hc
    have he : x / 256 ^ (n - i) * 256 ^ (n - i) + x / 256 ^ (n - 1 - i) % 256 * 256 ^ k = x / 256 ^ (n - (i + 1)) * 256 ^ (n - (i + 1)) := by
      have := pow_cut x 0 k
      rw [show n - i = k + 1 by omega, show n - 1 - i = k by omega, show n - (i + 1) = k by omega]
      exact this.symm
    rw [he] at hl
    generalize x / 256 ^ (n - i) * 256 ^ (n - i) = y at *
    rw [hk] at hl
    have hd := dig32_lt y ((n - 1 - i) / 4)
    have hw : x / 256 ^ (n - 1 - i) % 256 * 2 ^ (8 * ((n - 1 - i) % 4)) % 4294967296 < 4294967296 := Nat.mod_lt _ (by omega)
    have hq : (n - 1 - i) / 4 < (n + 3) / 4 := by omega
    clear hy he hxm
    refine T_seq ?_
    refine T_region ?_
    refine S_val rfl rfl (Y_lss_t rfl rfl (by omega)) ?_
    refine S_nil ?_
    refine X_seq ?_
    refine T_seq ?_
    refine T_cond_true rfl ?_
    refine T_skip ?_
    refine X_seq ?_
    refine T_seq ?_
    refine T_block ?_
    refine T_seq ?_
    refine T_region ?_
    refine S_val rfl rfl (Y_move rfl) ?_
    refine S_val rfl rfl (Y_ixV (und rfl) (siz rfl) rfl rfl (fun _ hs => Rd.st (by assumption) hs) (nat_cast _) (by simp; omega)) ?_
    refine S_val rfl rfl (Y_loadV (und rfl) rfl rfl (fun _ hs => Rd.st (by assumption) hs) (bel_get (by assumption))) ?_
    refine S_val rfl rfl (Y_assign rfl) ?_
    refine S_val rfl rfl (Y_assign rfl) ?_
    refine S_nil ?_
    refine X_seq ?_
    refine T_seq ?_
    refine T_region ?_
    refine S_val rfl rfl (Y_move rfl) ?_
    refine S_val rfl rfl (Y_lenV rfl (und rfl) rfl (fun _ hs => Rd.st (by assumption) hs) (bel_length _ _)) ?_
    refine S_val rfl rfl (Y_subN rfl rfl (nat_cast _) (nat_lit' _) (by omega) (by omega)) ?_
    refine S_val rfl rfl (Y_move rfl) ?_
    refine S_val rfl rfl (Y_subN rfl rfl (nat_cast _) (nat_cast _) (by omega) (by omega)) ?_
    refine S_val rfl rfl (Y_assign rfl) ?_
    refine S_nil ?_
    refine X_seq ?_
    refine T_drawP (.succ (.succ (.succ (.succ (.succ (.succ (.succ (.succ (.succ (.succ (.succ (.succ (.succ .zero))))))))))))) (by kernel_rfl) (by kernel_rfl) (by kernel_rfl) (by kernel_rfl) ?_
    refine D0_val rfl rfl rfl (Y_move rfl) ?_
    refine D0_val rfl rfl rfl (Y_move rfl) ?_
    refine D0_val rfl rfl rfl (Y_quoN rfl rfl (nat_cast _) (nat_lit' _) (Nat.succ_ne_zero _) (by first | with_reducible exact xi64 (by omega) | with_reducible exact x64 (by omega) | with_reducible exact x8 (by omega) | with_reducible exact x32 (by omega))) ?_
    refine D0_val rfl rfl rfl (Y_ixS (und rfl) (siz rfl) rfl rfl (by assumption) (nat_cast _) (by assumption)) ?_
    refine D0_valM rfl rfl rfl (Y_loadV (und rfl) rfl rfl (fun _ hs => hs.rowRd 0 rfl) (dl_get (by assumption))) ?_
    refine D0_val rfl rfl rfl (Y_move rfl) ?_
    refine D0_valM rfl rfl rfl (Y_conv (und rfl) (und rfl) rfl (wu32 (by omega) (by omega))) ?_
    refine D0_val rfl rfl rfl (Y_move rfl) ?_
    refine D0_val rfl rfl rfl (Y_remN rfl rfl (nat_cast _) (nat_lit' _) (Nat.succ_ne_zero _)) ?_
    refine D0_val rfl rfl rfl (Y_mulN rfl rfl (nat_lit' _) (nat_cast _) (by omega)) ?_
    refine D0_val rfl rfl rfl (Y_shlN rfl rfl (nat_cast _) (nat_cast _) rfl pw32) ?_
    refine D0_val rfl rfl rfl (Y_or rfl rfl (nat_cast _) (nat_cast _) rfl (by simp only [IntKind.bits]; assumption) (by simp only [IntKind.bits]; assumption)) ?_
    refine D0_val rfl rfl rfl (Y_ixS (und rfl) (siz rfl) rfl rfl (by assumption) (nat_cast _) (by assumption)) ?_
    refine D0_nilS ?_
    refine S_storeR 0 (siz rfl) rfl rfl rfl (dl_lt (by assumption)) rfl ?_
    refine S_nil ?_
    refine X_blk ?_
    refine X_seq ?_
    refine T_region ?_
    refine S_val rfl rfl (Y_addN rfl rfl (nat_cast _) (nat_lit' _) (by omega)) ?_
    refine S_val rfl rfl (Y_move rfl) ?_
    refine S_nil ?_
    refine X_loop ?_
    exact ⟨i + 1, by omega, by omega, (by repeat (first | exact Env.sub_nil _ | (apply Env.sub_cons; rfl))), [], by rw [← hl]; rfl⟩
  · obtain rfl : i = n := by omega
    rw [Nat.sub_self, Nat.pow_zero, Nat.div_one, Nat.mul_one]
    refine T_seq ?_
    refine T_region ?_
    refine S_val rfl rfl (Y_lss_f rfl rfl (by omega)) ?_
    refine S_nil ?_
    refine X_seq ?_
    refine T_seq ?_
    refine T_cond_false rfl ?_
    refine T_exit ?_
    refine X_seq_exit ?_
    refine X_loop_exit ?_
    refine X_blk_hit rfl ?_
    refine X_seq ?_
    refine T_seq ?_
    refine T_region ?_
    refine S_val rfl rfl (Y_move rfl) ?_
    refine S_callV rfl rfl (bod rfl) (fun w hs => trim_any x _ hxm (by omega) vo _ (by first | exact hs.rowRd 0 rfl | exact hs.rowRd 1 rfl | exact hs.rowRd 2 rfl | exact hs.rowRd 3 rfl | exact hs.rowRd 4 rfl | exact hs.rowRd 5 rfl | exact hs.rowRd 6 rfl | exact hs.rowRd 7 rfl | exact hs.rowRd 8 rfl | exact hs.rowRd 9 rfl | exact hs.rowRd 10 rfl | exact hs.rowRd 11 rfl | exact hs.rowRd 12 rfl | exact hs.rowRd 13 rfl | exact Rd.st (by assumption) hs)) rfl rfl ?_
    refine S_conv 0 rfl (fun _ hr => hr.trim htr) ?_
    refine S_val rfl rfl (Y_assign rfl) ?_
    refine S_nil ?_
    refine X_seq ?_
    refine T_ret ?_
    ((first | refine X_fin_ret ?_ | refine X_fin ?_); exact ⟨[_], [_], .cons (.tmp rfl) .nil, Emb.one 0 rfl, rfl⟩)
theorem mbytes_any (x m n : Nat) (hx : x < 4294967296 ^ m) (hm : m ≤ 1000000) (hn : n ≤ 1000000) (v : Value) (w : World) (hr : Rd w v .u32 (dl 4294967296 m x)) : Fn Tryd.prog 60 #[v, .int .i64 n] w fun u N => N = [row .u8 (bel n x) u] := by
  refine Fn_of (args := [v, .int .i64 n]) Tryd.func60 rfl Tryd.ntmps60 Tryd.results60 (by simp) ?_
  refine T_seq ?_
  refine T_region ?_
  refine S_val rfl rfl (Y_assign rfl) ?_
  refine S_nil ?_
  refine X_seq ?_
  refine T_seq ?_
  refine T_region ?_
  refine S_val rfl rfl (Y_move rfl) ?_
  refine S_makeR (und rfl) (siz rfl) (byt rfl) (zer rfl) rfl rfl (nat_cast _) (by omega) rfl rfl rfl fun _ => ?_
  refine S_val rfl rfl (Y_assign rfl) ?_
  refine S_nil ?_
  refine X_seq ?_
  refine T_seq ?_
  refine T_seq ?_
  refine T_region ?_
  refine S_val rfl rfl (Y_move rfl) ?_
  refine S_val rfl rfl (Y_lenV rfl (und rfl) rfl (fun _ hs => Rd.st (by assumption) hs) (dl_length _ _ _)) ?_
  refine S_val rfl rfl (Y_move rfl) ?_
  refine S_nil ?_
  refine X_seq ?_
  refine T_block ?_
  rename_i vo
  refine T_loop (α := Nat) (fun i => i ≤ m)
    (fun i => [(0, v), (1, .int .i64 n), (5, vo), (12, v), (13, .int .i64 m), (14, .int .i64 i)])
    (fun i => [row .u8 (bel n (x % 256 ^ (4 * i))) vo])
    (fun i => m - i) 0 (by omega) (by repeat (first | exact Env.sub_nil _ | (apply Env.sub_cons; rfl))) [] (by rw [Nat.mul_zero, Nat.pow_zero, Nat.mod_one, bel_zero]; rfl) ?_
  intro i hi
  by_cases h : i < m
  · have hd := dig32_lt x i
    refine T_seq ?_
    refine T_region ?_
    refine S_val rfl rfl (Y_lss_t rfl rfl (by omega)) ?_
    refine S_nil ?_
    refine X_seq ?_
    refine T_seq ?_
    refine T_cond_true rfl ?_
    refine T_skip ?_
    refine X_seq ?_
    refine T_seq ?_
    refine T_block ?_
    refine T_seq ?_
    refine T_region ?_
    refine S_val rfl rfl (Y_move rfl) ?_
    refine S_val rfl rfl (Y_ixV (und rfl) (siz rfl) rfl rfl (fun _ hs => Rd.st (by assumption) hs) (nat_cast _) (dl_lt (by assumption))) ?_
    refine S_val rfl rfl (Y_loadV (und rfl) rfl rfl (fun _ hs => Rd.st (by assumption) hs) (dl_get (by assumption))) ?_
    refine S_val rfl rfl (Y_assign rfl) ?_
    refine S_val rfl rfl (Y_assign rfl) ?_
    refine S_nil ?_
    refine X_seq ?_
    refine T_seq ?_
    refine T_region ?_
    refine S_val rfl rfl (Y_move rfl) ?_
    refine S_nil ?_
    refine X_seq ?_
    refine T_block ?_
    refine T_loop (α := Nat) (fun k => k ≤ 4)
      (fun k => [(0, v), (1, .int .i64 n), (5, vo), (6, .int .i64 i), (7, .int .u32 ((x / 4294967296 ^ i % 4294967296 : Nat) : Int)), (12, v), (13, .int .i64 m), (14, .int .i64 i), (19, .int .i64 k)])
      (fun k => [row .u8 (bel n (x % 256 ^ (4 * i + k))) vo])
      (fun k => 4 - k) 0 (by omega) (by repeat (first | exact Env.sub_nil _ | (apply Env.sub_cons; rfl))) [] rfl ?_
    intro k hk
    by_cases h2 : k < 4
    · by_cases h3 : 4 * i + k < n
      · have hb := byte32 x i k h2
        have hs : (bel n (x % 256 ^ (4 * i + k))).set (n - 1 - (4 * i + k)) ((x / 256 ^ (4 * i + k) % 256 : Nat) : Int) = bel n (x % 256 ^ (4 * i + (k + 1))) := by
          rw [bel_set (Nat.mod_lt _ (Nat.pow_pos (by omega))) (Nat.mod_lt _ (by omega)) h3, ← mod_pow_succ']
          rfl
        rw [show n - 1 - (4 * i + k) = n - 1 - 4 * i - k by omega, ← hb] at hs
        generalize x % 256 ^ (4 * i + k) = y at *
        clear hb hx
        generalize x / 4294967296 ^ i % 4294967296 = d at *
        refine T_seq ?_
        refine T_region ?_
        refine S_val rfl rfl (Y_lss_t rfl rfl (by omega)) ?_
        refine S_nil ?_
        refine X_seq ?_
        refine T_seq ?_
        refine T_cond_true rfl ?_
        refine T_skip ?_
        refine X_seq ?_
        refine T_seq ?_
        refine T_block ?_
        refine T_seq ?_
        refine T_region ?_
        refine S_val rfl rfl (Y_move rfl) ?_
        refine S_val rfl rfl (Y_assign rfl) ?_
        refine S_nil ?_
        refine X_seq ?_
        refine T_seq ?_
        refine T_region ?_
        refine S_val rfl rfl (Y_move rfl) ?_
        refine S_val rfl rfl (Y_subN rfl rfl (nat_cast _) (nat_lit' _) (by omega) (by omega)) ?_
        refine S_val rfl rfl (Y_move rfl) ?_
        refine S_val rfl rfl (Y_mulN rfl rfl (nat_lit' _) (nat_cast _) (by omega)) ?_
        refine S_val rfl rfl (Y_subN rfl rfl (nat_cast _) (nat_cast _) (by omega) (by omega)) ?_
        refine S_val rfl rfl (Y_move rfl) ?_
        refine S_val rfl rfl (Y_subN rfl rfl (nat_cast _) (nat_cast _) (by omega) (by omega)) ?_
        refine S_val rfl rfl (Y_assign rfl) ?_
        refine S_nil ?_
        refine X_seq ?_
        refine T_seq ?_
        refine T_region ?_
        refine S_val rfl rfl (Y_move rfl) ?_
        refine S_val rfl rfl (Y_geq_t rfl rfl (by omega)) ?_
        refine S_nil ?_
        refine X_seq ?_
        refine T_cond_true rfl ?_
        refine T_region ?_
        refine S_val rfl rfl (Y_move rfl) ?_
        refine S_val rfl rfl (Y_move rfl) ?_
        refine S_val rfl rfl (Y_move rfl) ?_
        refine S_val rfl rfl (Y_move rfl) ?_
        refine S_val rfl rfl (Y_mulN rfl rfl (nat_lit' _) (nat_cast _) (by omega)) ?_
        refine S_val rfl rfl (Y_shrN rfl rfl (nat_cast _) (nat_cast _) (by simp only [IntKind.bits]; assumption)) ?_
        refine S_val rfl rfl (Y_conv (und rfl) (und rfl) rfl wu8n) ?_
        refine S_val rfl rfl (Y_ixV (und rfl) (siz rfl) rfl rfl (fun _ hs => hs.rowRd 0 rfl) (nat_cast _) (by simp; omega)) ?_
        refine S_storeR 0 (siz rfl) rfl rfl rfl (by simp; omega) rfl ?_
        refine S_nil ?_
        refine X_blk ?_
        refine X_seq ?_
        refine T_region ?_
        refine S_val rfl rfl (Y_addN rfl rfl (nat_cast _) (nat_lit' _) (by omega)) ?_
        refine S_val rfl rfl (Y_move rfl) ?_
        refine S_nil ?_
        refine X_loop ?_
        exact ⟨k + 1, by omega, by omega, (by repeat (first | exact Env.sub_nil _ | (apply Env.sub_cons; rfl))), [], by rw [← hs]; rfl⟩
      · have hs : bel n (x % 256 ^ (4 * i + k)) = bel n (x % 256 ^ (4 * i + (k + 1))) := by
          rw [← bel_mod n (x % 256 ^ (4 * i + k)), ← bel_mod n (x % 256 ^ (4 * i + (k + 1))), Nat.mod_mod_of_dvd _ (Nat.pow_dvd_pow 256 (by omega)), Nat.mod_mod_of_dvd _ (Nat.pow_dvd_pow 256 (by omega))]
        generalize x / 4294967296 ^ i % 4294967296 = d at *
        rw [hs]
        refine T_seq ?_
        refine T_region ?_
        refine S_val rfl rfl (Y_lss_t rfl rfl (by omega)) ?_
        refine S_nil ?_
        refine X_seq ?_
        refine T_seq ?_
        refine T_cond_true rfl ?_
        refine T_skip ?_
        refine X_seq ?_
        refine T_seq ?_
        refine T_block ?_
        refine T_seq ?_
        refine T_region ?_
        refine S_val rfl rfl (Y_move rfl) ?_
        refine S_val rfl rfl (Y_assign rfl) ?_
        refine S_nil ?_
        refine X_seq ?_
        refine T_seq ?_
        refine T_region ?_
        refine S_val rfl rfl (Y_move rfl) ?_
        refine S_val rfl rfl (Y_sub rfl rfl (wi64 (by omega) (by omega))) ?_
        refine S_val rfl rfl (Y_move rfl) ?_
        refine S_val rfl rfl (Y_mulN rfl rfl (nat_lit' _) (nat_cast _) (by omega)) ?_
        refine S_val rfl rfl (Y_sub rfl rfl (wi64 (by omega) (by omega))) ?_
        refine S_val rfl rfl (Y_move rfl) ?_
        refine S_val rfl rfl (Y_sub rfl rfl (wi64 (by omega) (by omega))) ?_
        refine S_val rfl rfl (Y_assign rfl) ?_
        refine S_nil ?_
        refine X_seq ?_
        refine T_seq ?_
        refine T_region ?_
        refine S_val rfl rfl (Y_move rfl) ?_
        refine S_val rfl rfl (Y_geq_f rfl rfl (by omega)) ?_
        refine S_nil ?_
        refine X_seq ?_
        refine T_cond_false rfl ?_
        refine T_skip ?_
        refine X_blk ?_
        refine X_seq ?_
        refine T_region ?_
        refine S_val rfl rfl (Y_addN rfl rfl (nat_cast _) (nat_lit' _) (by omega)) ?_
        refine S_val rfl rfl (Y_move rfl) ?_
        refine S_nil ?_
        refine X_loop ?_
        exact ⟨k + 1, by omega, by omega, (by repeat (first | exact Env.sub_nil _ | (apply Env.sub_cons; rfl))), [], rfl⟩
    · obtain rfl : k = 4 := by omega
      refine T_seq ?_
      refine T_region ?_
      refine S_val rfl rfl (Y_lss_f rfl rfl (by decide)) ?_
      refine S_nil ?_
      refine X_seq ?_
      refine T_seq ?_
      refine T_cond_false rfl ?_
      refine T_exit ?_
      refine X_seq_exit ?_
      refine X_loop_exit ?_
      refine X_blk_hit rfl ?_
      refine X_blk ?_
      refine X_seq ?_
      refine T_region ?_
      refine S_val rfl rfl (Y_addN rfl rfl (nat_cast _) (nat_lit' _) (by omega)) ?_
      refine S_val rfl rfl (Y_move rfl) ?_
      refine S_nil ?_
      refine X_loop ?_
      exact ⟨i + 1, by omega, by omega, (by repeat (first | exact Env.sub_nil _ | (apply Env.sub_cons; rfl))), [], by rw [Nat.mul_add]; rfl⟩
  · obtain rfl : i = m := by omega
    rw [show x % 256 ^ (4 * i) = x by rw [Nat.pow_mul]; exact Nat.mod_eq_of_lt hx]
    refine T_seq ?_
    refine T_region ?_
    refine S_val rfl rfl (Y_lss_f rfl rfl (by omega)) ?_
    refine S_nil ?_
    refine X_seq ?_
    refine T_seq ?_
    refine T_cond_false rfl ?_
    refine T_exit ?_
    refine X_seq_exit ?_
    refine X_loop_exit ?_
    refine X_blk_hit rfl ?_
    refine X_seq ?_
    refine T_seq ?_
    refine T_region ?_
    refine S_val rfl rfl (Y_move rfl) ?_
    refine S_val rfl rfl (Y_assign rfl) ?_
    refine S_nil ?_
    refine X_seq ?_
    refine T_ret ?_
    ((first | refine X_fin_ret ?_ | refine X_fin ?_); exact ⟨[_], [_], .cons (.tmp rfl) .nil, Emb.one 0 rfl, rfl⟩)
end Go.Proofs.YtchoncjikdfbgaaDoor
