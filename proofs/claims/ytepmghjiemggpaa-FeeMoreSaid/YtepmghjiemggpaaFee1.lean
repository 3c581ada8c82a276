import Derived.Test.YtepmghjiemggpaaFee0
/- The calls of package fee. -/
namespace Go.Proofs.Ytepmghjiemggpaa
open Go.RowKit
set_option maxRecDepth 20000
set_option maxHeartbeats 4000000

theorem ones_any (w : World) : Fn Try.prog 64 #[] w fun v N => v = W (2 ^ 256 - 1) ∧ N = [] := by
  refine Fn_of (args := []) Try.func64 rfl Try.ntmps64 Try.results64 (by simp) ?_
  refine T_seq ?_
  refine T_region ?_
  refine S_allocA (zer rfl) rfl rfl fun _ => ?_
  refine S_nil ?_
  refine X_seq ?_
  refine T_seq ?_
  refine T_region ?_
  refine S_val rfl rfl (Y_build (und rfl) (siz rfl) (zer rfl) rfl rfl) ?_
  refine S_callV rfl rfl (bod rfl) (fun w hs => not_any 0 (by omega) _) rfl rfl ?_
  refine S_storeAI 0 (siz rfl) rfl rfl rfl rfl (dl_length _ _ _) rfl ?_
  refine S_nil ?_
  refine X_seq ?_
  refine T_ret ?_
  ((first | refine X_fin_ret ?_ | refine X_fin ?_); exact ⟨[_], [], .cons (.agg 0 rfl (und rfl) rfl rfl (siz rfl)) .nil, Emb.nil _, rfl, rfl⟩)

theorem quotient_any (lo hi y : Nat) (hlo : lo < 2 ^ 256) (hhi : hi < 2 ^ 256) (hy0 : 0 < y) (hy : y < 2 ^ 255) (w : World) :
    Fn Try.prog 69 #[W lo, W hi, W y] w fun v N => v = W (min ((hi * 2 ^ 256 + lo) / y) (2 ^ 256 - 1)) ∧ N = [] := by
  have hyb : y < 2 ^ 256 := by omega
  by_cases h : hi < y
  · have hc : cmpI hi y = -1 := by unfold cmpI; rw [if_pos h]
    have hq : (hi * 2 ^ 256 + lo) / y < 2 ^ 256 := by
      refine Nat.div_lt_of_lt_mul ?_
      have : (hi + 1) * 2 ^ 256 ≤ y * 2 ^ 256 := Nat.mul_le_mul_right _ h
      omega
    obtain ⟨N, hN⟩ : ∃ N, N = hi * 2 ^ 256 + lo := ⟨_, rfl⟩
    have hlb : ∀ i, i < 256 → lo.testBit i = decide (N / 2 ^ i % 2 = 1) := fun i hi' => by rw [hN]; exact low_bit hi lo i hi'
    have hNh : N / 2 ^ 256 = hi := by rw [hN]; omega
    rw [← hN] at hq ⊢
    have hcmp : ∀ w, Fn Try.prog 22 #[W hi, W y] w fun v N => v = .int .i64 (-1) ∧ N = [] := fun w => by
      have := compare_any hi y hhi hyb w
      rwa [hc] at this
    refine Fn_of (args := [W lo, W hi, W y]) Try.func69 rfl Try.ntmps69 Try.results69 (by simp) ?_
    refine T_seq ?_
    refine T_region ?_
    refine S_boxA rfl rfl rfl fun _ => ?_
    refine S_boxA rfl rfl rfl fun _ => ?_
    refine S_boxA rfl rfl rfl fun _ => ?_
    refine S_allocA (zer rfl) rfl rfl fun _ => ?_
    refine S_nil ?_
    refine X_seq ?_
    refine T_seq ?_
    refine T_seq ?_
    refine T_region ?_
    refine S_val rfl rfl (Y_loadAI 1 (und rfl) rfl rfl rfl (siz rfl) (dl_length _ _ _)) ?_
    refine S_val rfl rfl (Y_loadAI 2 (und rfl) rfl rfl rfl (siz rfl) (dl_length _ _ _)) ?_
    refine S_callV rfl rfl (bod rfl) (fun w hs => hcmp _) rfl rfl ?_
    refine S_val rfl rfl (Y_geq_f rfl rfl (by decide)) ?_
    refine S_nil ?_
    refine X_seq ?_
    refine T_cond_false rfl ?_
    refine T_skip ?_
    refine X_seq ?_
    refine T_seq ?_
    refine T_region ?_
    refine S_allocA (zer rfl) rfl rfl fun _ => ?_
    refine S_nil ?_
    refine X_seq ?_
    refine T_seq ?_
    refine T_region ?_
    refine S_val rfl rfl (Y_loadAI 1 (und rfl) rfl rfl rfl (siz rfl) (dl_length _ _ _)) ?_
    refine S_allocA (zer rfl) rfl rfl fun _ => ?_
    refine S_storeAI 5 (siz rfl) rfl rfl rfl rfl (dl_length _ _ _) rfl ?_
    refine S_nil ?_
    refine X_seq ?_
    refine T_seq ?_
    refine T_seq ?_
    refine T_region ?_
    refine S_val rfl rfl (Y_assign rfl) ?_
    refine S_nil ?_
    refine X_seq ?_
    refine T_block ?_
    rename_i b0 b1 b2 b3 b4 b5
    refine T_loop (α := Nat) (fun j => j ≤ 256)
      (fun j => [(3, .pointer (some ⟨b0, 0, none⟩)), (4, .pointer (some ⟨b1, 0, none⟩)), (5, .pointer (some ⟨b2, 0, none⟩)), (6, .pointer (some ⟨b3, 0, none⟩)), (7, .pointer (some ⟨b4, 0, none⟩)), (8, .pointer (some ⟨b5, 0, none⟩)), (9, .int .i64 ((j : Int) - 1))])
      (fun j => [blk b0 (.cells (ints .u64 (dl 18446744073709551616 4 (lo))) 24 (0, 0)), blk b1 (.cells (ints .u64 (dl 18446744073709551616 4 (hi))) 24 (0, 0)), blk b2 (.cells (ints .u64 (dl 18446744073709551616 4 (y))) 24 (0, 0)), blk b3 (.cells (ints .u64 (List.replicate 4 0)) 24 (0, 0)), blk b4 (.cells (ints .u64 (dl 18446744073709551616 4 (N / 2 ^ j / y * 2 ^ j))) 24 (0, 0)), blk b5 (.cells (ints .u64 (dl 18446744073709551616 4 (N / 2 ^ j % y))) 24 (0, 0))])
      (fun j => j) 256 (Nat.le_refl _) (by repeat (first | exact Env.sub_nil _ | (apply Env.sub_cons; rfl))) [] (by rw [hNh, Nat.div_eq_of_lt h, Nat.mod_eq_of_lt h, Nat.zero_mul]; rfl) ?_
    intro j hj
    by_cases h0 : j = 0
    · subst h0
      refine T_seq ?_
      refine T_seq ?_
      refine T_region ?_
      refine S_val rfl rfl (Y_move rfl) ?_
      refine S_val rfl rfl (Y_geq_f rfl rfl (by decide)) ?_
      refine S_nil ?_
      refine X_seq ?_
      refine T_cond_false rfl ?_
      refine T_exit ?_
      refine X_seq_exit ?_
      refine X_loop_exit ?_
      refine X_blk_hit rfl ?_
      refine X_seq ?_
      refine T_seq ?_
      refine T_region ?_
      refine S_val rfl rfl (Y_loadAI 4 (und rfl) rfl rfl rfl (siz rfl) (dl_length _ _ _)) ?_
      refine S_storeAI 3 (siz rfl) rfl rfl rfl rfl (dl_length _ _ _) rfl ?_
      refine S_nil ?_
      refine X_seq ?_
      refine T_ret ?_
      ((first | refine X_fin_ret ?_ | refine X_fin ?_); exact ⟨[_], [], .cons (.agg 3 rfl (und rfl) rfl rfl (siz rfl)) .nil, Emb.nil _, by rw [Nat.pow_zero, Nat.mul_one, Nat.div_one, Nat.min_eq_left (by omega)]; rfl, rfl⟩)
    · obtain ⟨i, rfl⟩ : ∃ i, j = i + 1 := ⟨j - 1, by omega⟩
      rw [show (((i + 1 : Nat) : Int) - 1) = (i : Int) by omega]
      obtain ⟨_, hb2, hb3⟩ := bit_step (N := N) (i := i) hy0
      have hl := Nat.mod_lt (N / 2 ^ (i + 1)) hy0
      have hbl : N / 2 ^ i % 2 < 2 := Nat.mod_lt _ (by omega)
      have hlbi := hlb i (by omega)
      generalize N / 2 ^ (i + 1) % y = l at *
      generalize hA : N / 2 ^ (i + 1) / y = A at *
      have hQb : A * 2 ^ (i + 1) % 2 ^ (i + 1) = 0 := Nat.mul_mod_left _ _
      have hsh : (1 * 2 ^ (i % 64) % 18446744073709551616) < 18446744073709551616 := Nat.mod_lt _ (by omega)
      have hdq := digit_lt (A * 2 ^ (i + 1)) (i / 64)
      have s1 : ∀ w, Fn Try.prog 59 #[W l, .int .u64 1] w fun v N => v = W (2 * l) ∧ N = [] := fun w => by
        have := shl_any l 1 (by omega) w
        rwa [show l * 2 ^ 1 % 2 ^ 256 = 2 * l by omega] at this
      have hbit0 := fun w => bit_any lo i hlo (by omega) w
      rw [hlbi] at hbit0
      have hev : 2 * l % 2 = 0 := by omega
      have hd0 := digit_lt (2 * l) 0
      have hfin : (N / 2 ^ i / y) * 2 ^ i = A * 2 ^ (i + 1) + (2 * l + N / 2 ^ i % 2) / y * 2 ^ i := by
        rw [hb2, Nat.add_mul, Nat.pow_succ, Nat.mul_comm 2 A, Nat.mul_assoc, Nat.mul_comm 2]
      rcases (show N / 2 ^ i % 2 = 1 ∨ N / 2 ^ i % 2 = 0 by omega) with hb | hb
      · rw [hb] at hb2 hb3 hfin
        have hbit : ∀ w, Fn Try.prog 24 #[W lo, .int .u64 i] w fun v N => v = .bool true ∧ N = [] := fun w => by
          have := hbit0 w
          rwa [decide_eq_true hb] at this
        by_cases hge : 2 * l + 1 < y
        · have hcmp2 : ∀ w, Fn Try.prog 22 #[W (2 * l + 1), W y] w fun v N => v = .int .i64 (-1) ∧ N = [] := fun w => by
            have := compare_any (2 * l + 1) y (by omega) hyb w
            rwa [show cmpI (2 * l + 1) y = -1 by unfold cmpI; rw [if_pos hge]] at this
          refine T_seq ?_
          refine T_seq ?_
          refine T_region ?_
          refine S_val rfl rfl (Y_move rfl) ?_
          refine S_val rfl rfl (Y_geq_t rfl rfl (by omega)) ?_
          refine S_nil ?_
          refine X_seq ?_
          refine T_cond_true rfl ?_
          refine T_skip ?_
          refine X_seq ?_
          refine T_seq ?_
          refine T_block ?_
          refine T_seq ?_
          refine T_region ?_
          refine S_val rfl rfl (Y_loadAI 5 (und rfl) rfl rfl rfl (siz rfl) (dl_length _ _ _)) ?_
          refine S_callV rfl rfl (bod rfl) (fun w hs => s1 _) rfl rfl ?_
          refine S_storeAI 5 (siz rfl) rfl rfl rfl (dl_length _ _ _) (dl_length _ _ _) rfl ?_
          refine S_nil ?_
          refine X_seq ?_
          refine T_seq ?_
          refine T_seq ?_
          refine T_region ?_
          refine S_val rfl rfl (Y_loadAI 0 (und rfl) rfl rfl rfl (siz rfl) (dl_length _ _ _)) ?_
          refine S_val rfl rfl (Y_move rfl) ?_
          refine S_val rfl rfl (Y_conv (und rfl) (und rfl) rfl (wu64 (by omega) (by omega))) ?_
          refine S_callV rfl rfl (bod rfl) (fun w hs => hbit _) rfl rfl ?_
          refine S_nil ?_
          refine X_seq ?_
          refine T_cond_true rfl ?_
          refine T_region ?_
          refine S_val rfl rfl (Y_ixa (und rfl) (siz rfl) rfl rfl (nat_lit' _) (Nat.le_of_ble_eq_true rfl)) ?_
          refine S_val rfl rfl (Y_loadI 5 (und rfl) rfl rfl rfl (dl_get (Nat.le_of_ble_eq_true rfl))) ?_
          refine S_val rfl rfl (Y_or rfl rfl (nat_cast _) (nat_lit' _) rfl (by simp only [IntKind.bits]; assumption) (by simp only [IntKind.bits]; omega)) ?_
          refine S_val rfl rfl (Y_ixa (und rfl) (siz rfl) rfl rfl (nat_lit' _) (Nat.le_of_ble_eq_true rfl)) ?_
          refine S_storeI 5 (siz rfl) rfl rfl rfl (Nat.le_of_ble_eq_true rfl) rfl rfl ?_
          refine S_nil ?_
          refine X_seq ?_
          refine T_seq ?_
          refine T_region ?_
          refine S_val rfl rfl (Y_loadAI 5 (und rfl) rfl rfl rfl (siz rfl) rfl) ?_
          refine S_val rfl rfl (Y_loadAI 2 (und rfl) rfl rfl rfl (siz rfl) (dl_length _ _ _)) ?_
          rw [dl_or1 hev]
          refine S_callV rfl rfl (bod rfl) (fun w hs => hcmp2 _) rfl rfl ?_
          refine S_val rfl rfl (Y_geq_f rfl rfl (by decide)) ?_
          refine S_nil ?_
          refine X_seq ?_
          refine T_cond_false rfl ?_
          refine T_skip ?_
          refine X_blk ?_
          refine X_seq ?_
          refine T_region ?_
          refine S_val rfl rfl (Y_move rfl) ?_
          refine S_val rfl rfl (Y_sub rfl rfl (wi64 (by omega) (by omega))) ?_
          refine S_val rfl rfl (Y_assign rfl) ?_
          refine S_nil ?_
          refine X_loop ?_
          refine ⟨i, by omega, by omega, (by repeat (first | exact Env.sub_nil _ | (apply Env.sub_cons; rfl))), [], ?_⟩
          rw [hfin, hb3, Nat.div_eq_of_lt hge, Nat.mod_eq_of_lt hge, Nat.zero_mul, Nat.add_zero]
          rfl
        · have hcmp2 : ∃ c : Int, 0 ≤ c ∧ ∀ w, Fn Try.prog 22 #[W (2 * l + 1), W y] w fun v N => v = .int .i64 c ∧ N = [] :=
            ⟨cmpI (2 * l + 1) y, by unfold cmpI; rw [if_neg hge]; split <;> omega, fun w => compare_any (2 * l + 1) y (by omega) hyb w⟩
          obtain ⟨c, hc0, hcmp2⟩ := hcmp2
          have hq1 : (2 * l + 1) / y = 1 ∧ (2 * l + 1) % y = 2 * l + 1 - y := by
            have e : 2 * l + 1 = (2 * l + 1 - y) + 1 * y := by omega
            have hlt : 2 * l + 1 - y < y := by omega
            constructor
            · rw [e, Nat.add_mul_div_right _ _ hy0, Nat.div_eq_of_lt hlt]
            · conv => lhs; rw [e]
              rw [Nat.add_mul_mod_self_right, Nat.mod_eq_of_lt hlt]
          have s2 : ∀ w, Fn Try.prog 57 #[W (2 * l + 1), W y] w fun v N => v = W (2 * l + 1 - y) ∧ N = [] := fun w => by
            have := sub_any (2 * l + 1) y (by omega) hyb w
            rwa [show (2 * l + 1 + 2 ^ 256 - y) % 2 ^ 256 = 2 * l + 1 - y by omega] at this
          refine T_seq ?_
          refine T_seq ?_
          refine T_region ?_
          refine S_val rfl rfl (Y_move rfl) ?_
          refine S_val rfl rfl (Y_geq_t rfl rfl (by omega)) ?_
          refine S_nil ?_
          refine X_seq ?_
          refine T_cond_true rfl ?_
          refine T_skip ?_
          refine X_seq ?_
          refine T_seq ?_
          refine T_block ?_
          refine T_seq ?_
          refine T_region ?_
          refine S_val rfl rfl (Y_loadAI 5 (und rfl) rfl rfl rfl (siz rfl) (dl_length _ _ _)) ?_
          refine S_callV rfl rfl (bod rfl) (fun w hs => s1 _) rfl rfl ?_
          refine S_storeAI 5 (siz rfl) rfl rfl rfl (dl_length _ _ _) (dl_length _ _ _) rfl ?_
          refine S_nil ?_
          refine X_seq ?_
          refine T_seq ?_
          refine T_seq ?_
          refine T_region ?_
          refine S_val rfl rfl (Y_loadAI 0 (und rfl) rfl rfl rfl (siz rfl) (dl_length _ _ _)) ?_
          refine S_val rfl rfl (Y_move rfl) ?_
          refine S_val rfl rfl (Y_conv (und rfl) (und rfl) rfl (wu64 (by omega) (by omega))) ?_
          refine S_callV rfl rfl (bod rfl) (fun w hs => hbit _) rfl rfl ?_
          refine S_nil ?_
          refine X_seq ?_
          refine T_cond_true rfl ?_
          refine T_region ?_
          refine S_val rfl rfl (Y_ixa (und rfl) (siz rfl) rfl rfl (nat_lit' _) (Nat.le_of_ble_eq_true rfl)) ?_
          refine S_val rfl rfl (Y_loadI 5 (und rfl) rfl rfl rfl (dl_get (Nat.le_of_ble_eq_true rfl))) ?_
          refine S_val rfl rfl (Y_or rfl rfl (nat_cast _) (nat_lit' _) rfl (by simp only [IntKind.bits]; assumption) (by simp only [IntKind.bits]; omega)) ?_
          refine S_val rfl rfl (Y_ixa (und rfl) (siz rfl) rfl rfl (nat_lit' _) (Nat.le_of_ble_eq_true rfl)) ?_
          refine S_storeI 5 (siz rfl) rfl rfl rfl (Nat.le_of_ble_eq_true rfl) rfl rfl ?_
          refine S_nil ?_
          refine X_seq ?_
          refine T_seq ?_
          refine T_region ?_
          refine S_val rfl rfl (Y_loadAI 5 (und rfl) rfl rfl rfl (siz rfl) rfl) ?_
          refine S_val rfl rfl (Y_loadAI 2 (und rfl) rfl rfl rfl (siz rfl) (dl_length _ _ _)) ?_
          rw [dl_or1 hev]
          refine S_callV rfl rfl (bod rfl) (fun w hs => hcmp2 _) rfl rfl ?_
          refine S_val rfl rfl (Y_geq_t rfl rfl (by assumption)) ?_
          refine S_nil ?_
          refine X_seq ?_
          refine T_cond_true rfl ?_
          refine T_seq ?_
          refine T_region ?_
          refine S_val rfl rfl (Y_loadAI 5 (und rfl) rfl rfl rfl (siz rfl) (dl_length _ _ _)) ?_
          refine S_val rfl rfl (Y_loadAI 2 (und rfl) rfl rfl rfl (siz rfl) (dl_length _ _ _)) ?_
          refine S_callV rfl rfl (bod rfl) (fun w hs => s2 _) rfl rfl ?_
          refine S_storeAI 5 (siz rfl) rfl rfl rfl (dl_length _ _ _) (dl_length _ _ _) rfl ?_
          refine S_nil ?_
          refine X_seq ?_
          refine T_draw (by kernel_rfl) (by kernel_rfl) rfl ?_
          refine D0_val rfl rfl rfl (Y_move rfl) ?_
          refine D0_val rfl rfl rfl (Y_quoN rfl rfl (nat_cast _) (nat_lit' _) (Nat.succ_ne_zero _) (by simp only [IntKind.max, IntKind.signed, IntKind.bits, Bool.false_eq_true, if_false, if_true]; omega)) ?_
          refine D0_val rfl rfl rfl (Y_ixa (und rfl) (siz rfl) rfl rfl (nat_cast _) (by omega)) ?_
          refine D0_valM rfl rfl rfl (Y_loadI 4 (und rfl) rfl rfl rfl (dl_get (by omega))) ?_
          refine D0_val rfl rfl rfl (Y_move rfl) ?_
          refine D0_val rfl rfl rfl (Y_remN rfl rfl (nat_cast _) (nat_lit' _) (Nat.succ_ne_zero _)) ?_
          refine D0_val rfl rfl rfl (Y_shlN rfl rfl (nat_lit' _) (nat_cast _) rfl pw64) ?_
          refine D0_val rfl rfl rfl (Y_or rfl rfl (nat_cast _) (nat_cast _) rfl (by simp only [IntKind.bits]; assumption) (by simp only [IntKind.bits]; assumption)) ?_
          refine D0_val rfl rfl rfl (Y_ixa (und rfl) (siz rfl) rfl rfl (nat_cast _) (by omega)) ?_
          refine D0_storeI 4 rfl (siz rfl) rfl rfl rfl (by simp; omega) rfl rfl ?_
          refine D0_nil ?_
          refine X_blk ?_
          refine X_seq ?_
          refine T_region ?_
          refine S_val rfl rfl (Y_move rfl) ?_
          refine S_val rfl rfl (Y_sub rfl rfl (wi64 (by omega) (by omega))) ?_
          refine S_val rfl rfl (Y_assign rfl) ?_
          refine S_nil ?_
          refine X_loop ?_
          refine ⟨i, by omega, by omega, (by repeat (first | exact Env.sub_nil _ | (apply Env.sub_cons; rfl))), [], ?_⟩
          rw [hfin, hb3, hq1.1, hq1.2, Nat.one_mul (2 ^ i), dl_orbit (by omega) hQb]
          rfl
      · rw [hb] at hb2 hb3 hfin
        simp only [Nat.add_zero] at hb2 hb3 hfin
        have hbit : ∀ w, Fn Try.prog 24 #[W lo, .int .u64 i] w fun v N => v = .bool false ∧ N = [] := fun w => by
          have := hbit0 w
          rwa [decide_eq_false (by omega)] at this
        by_cases hge : 2 * l < y
        · have hcmp2 : ∀ w, Fn Try.prog 22 #[W (2 * l), W y] w fun v N => v = .int .i64 (-1) ∧ N = [] := fun w => by
            have := compare_any (2 * l) y (by omega) hyb w
            rwa [show cmpI (2 * l) y = -1 by unfold cmpI; rw [if_pos hge]] at this
          refine T_seq ?_
          refine T_seq ?_
          refine T_region ?_
          refine S_val rfl rfl (Y_move rfl) ?_
          refine S_val rfl rfl (Y_geq_t rfl rfl (by omega)) ?_
          refine S_nil ?_
          refine X_seq ?_
          refine T_cond_true rfl ?_
          refine T_skip ?_
          refine X_seq ?_
          refine T_seq ?_
          refine T_block ?_
          refine T_seq ?_
          refine T_region ?_
          refine S_val rfl rfl (Y_loadAI 5 (und rfl) rfl rfl rfl (siz rfl) (dl_length _ _ _)) ?_
          refine S_callV rfl rfl (bod rfl) (fun w hs => s1 _) rfl rfl ?_
          refine S_storeAI 5 (siz rfl) rfl rfl rfl (dl_length _ _ _) (dl_length _ _ _) rfl ?_
          refine S_nil ?_
          refine X_seq ?_
          refine T_seq ?_
          refine T_seq ?_
          refine T_region ?_
          refine S_val rfl rfl (Y_loadAI 0 (und rfl) rfl rfl rfl (siz rfl) (dl_length _ _ _)) ?_
          refine S_val rfl rfl (Y_move rfl) ?_
          refine S_val rfl rfl (Y_conv (und rfl) (und rfl) rfl (wu64 (by omega) (by omega))) ?_
          refine S_callV rfl rfl (bod rfl) (fun w hs => hbit _) rfl rfl ?_
          refine S_nil ?_
          refine X_seq ?_
          refine T_cond_false rfl ?_
          refine T_skip ?_
          refine X_seq ?_
          refine T_seq ?_
          refine T_region ?_
          refine S_val rfl rfl (Y_loadAI 5 (und rfl) rfl rfl rfl (siz rfl) (dl_length _ _ _)) ?_
          refine S_val rfl rfl (Y_loadAI 2 (und rfl) rfl rfl rfl (siz rfl) (dl_length _ _ _)) ?_
          refine S_callV rfl rfl (bod rfl) (fun w hs => hcmp2 _) rfl rfl ?_
          refine S_val rfl rfl (Y_geq_f rfl rfl (by decide)) ?_
          refine S_nil ?_
          refine X_seq ?_
          refine T_cond_false rfl ?_
          refine T_skip ?_
          refine X_blk ?_
          refine X_seq ?_
          refine T_region ?_
          refine S_val rfl rfl (Y_move rfl) ?_
          refine S_val rfl rfl (Y_sub rfl rfl (wi64 (by omega) (by omega))) ?_
          refine S_val rfl rfl (Y_assign rfl) ?_
          refine S_nil ?_
          refine X_loop ?_
          refine ⟨i, by omega, by omega, (by repeat (first | exact Env.sub_nil _ | (apply Env.sub_cons; rfl))), [], ?_⟩
          rw [hfin, hb3, Nat.div_eq_of_lt hge, Nat.mod_eq_of_lt hge, Nat.zero_mul, Nat.add_zero]
          rfl
        · have hcmp2 : ∃ c : Int, 0 ≤ c ∧ ∀ w, Fn Try.prog 22 #[W (2 * l), W y] w fun v N => v = .int .i64 c ∧ N = [] :=
            ⟨cmpI (2 * l) y, by unfold cmpI; rw [if_neg hge]; split <;> omega, fun w => compare_any (2 * l) y (by omega) hyb w⟩
          obtain ⟨c, hc0, hcmp2⟩ := hcmp2
          have hq1 : 2 * l / y = 1 ∧ 2 * l % y = 2 * l - y := by
            have e : 2 * l = (2 * l - y) + 1 * y := by omega
            have hlt : 2 * l - y < y := by omega
            constructor
            · rw [e, Nat.add_mul_div_right _ _ hy0, Nat.div_eq_of_lt hlt]
            · conv => lhs; rw [e]
              rw [Nat.add_mul_mod_self_right, Nat.mod_eq_of_lt hlt]
          have s2 : ∀ w, Fn Try.prog 57 #[W (2 * l), W y] w fun v N => v = W (2 * l - y) ∧ N = [] := fun w => by
            have := sub_any (2 * l) y (by omega) hyb w
            rwa [show (2 * l + 2 ^ 256 - y) % 2 ^ 256 = 2 * l - y by omega] at this
          refine T_seq ?_
          refine T_seq ?_
          refine T_region ?_
          refine S_val rfl rfl (Y_move rfl) ?_
          refine S_val rfl rfl (Y_geq_t rfl rfl (by omega)) ?_
          refine S_nil ?_
          refine X_seq ?_
          refine T_cond_true rfl ?_
          refine T_skip ?_
          refine X_seq ?_
          refine T_seq ?_
          refine T_block ?_
          refine T_seq ?_
          refine T_region ?_
          refine S_val rfl rfl (Y_loadAI 5 (und rfl) rfl rfl rfl (siz rfl) (dl_length _ _ _)) ?_
          refine S_callV rfl rfl (bod rfl) (fun w hs => s1 _) rfl rfl ?_
          refine S_storeAI 5 (siz rfl) rfl rfl rfl (dl_length _ _ _) (dl_length _ _ _) rfl ?_
          refine S_nil ?_
          refine X_seq ?_
          refine T_seq ?_
          refine T_seq ?_
          refine T_region ?_
          refine S_val rfl rfl (Y_loadAI 0 (und rfl) rfl rfl rfl (siz rfl) (dl_length _ _ _)) ?_
          refine S_val rfl rfl (Y_move rfl) ?_
          refine S_val rfl rfl (Y_conv (und rfl) (und rfl) rfl (wu64 (by omega) (by omega))) ?_
          refine S_callV rfl rfl (bod rfl) (fun w hs => hbit _) rfl rfl ?_
          refine S_nil ?_
          refine X_seq ?_
          refine T_cond_false rfl ?_
          refine T_skip ?_
          refine X_seq ?_
          refine T_seq ?_
          refine T_region ?_
          refine S_val rfl rfl (Y_loadAI 5 (und rfl) rfl rfl rfl (siz rfl) (dl_length _ _ _)) ?_
          refine S_val rfl rfl (Y_loadAI 2 (und rfl) rfl rfl rfl (siz rfl) (dl_length _ _ _)) ?_
          refine S_callV rfl rfl (bod rfl) (fun w hs => hcmp2 _) rfl rfl ?_
          refine S_val rfl rfl (Y_geq_t rfl rfl (by assumption)) ?_
          refine S_nil ?_
          refine X_seq ?_
          refine T_cond_true rfl ?_
          refine T_seq ?_
          refine T_region ?_
          refine S_val rfl rfl (Y_loadAI 5 (und rfl) rfl rfl rfl (siz rfl) (dl_length _ _ _)) ?_
          refine S_val rfl rfl (Y_loadAI 2 (und rfl) rfl rfl rfl (siz rfl) (dl_length _ _ _)) ?_
          refine S_callV rfl rfl (bod rfl) (fun w hs => s2 _) rfl rfl ?_
          refine S_storeAI 5 (siz rfl) rfl rfl rfl (dl_length _ _ _) (dl_length _ _ _) rfl ?_
          refine S_nil ?_
          refine X_seq ?_
          refine T_draw (by kernel_rfl) (by kernel_rfl) rfl ?_
          refine D0_val rfl rfl rfl (Y_move rfl) ?_
          refine D0_val rfl rfl rfl (Y_quoN rfl rfl (nat_cast _) (nat_lit' _) (Nat.succ_ne_zero _) (by simp only [IntKind.max, IntKind.signed, IntKind.bits, Bool.false_eq_true, if_false, if_true]; omega)) ?_
          refine D0_val rfl rfl rfl (Y_ixa (und rfl) (siz rfl) rfl rfl (nat_cast _) (by omega)) ?_
          refine D0_valM rfl rfl rfl (Y_loadI 4 (und rfl) rfl rfl rfl (dl_get (by omega))) ?_
          refine D0_val rfl rfl rfl (Y_move rfl) ?_
          refine D0_val rfl rfl rfl (Y_remN rfl rfl (nat_cast _) (nat_lit' _) (Nat.succ_ne_zero _)) ?_
          refine D0_val rfl rfl rfl (Y_shlN rfl rfl (nat_lit' _) (nat_cast _) rfl pw64) ?_
          refine D0_val rfl rfl rfl (Y_or rfl rfl (nat_cast _) (nat_cast _) rfl (by simp only [IntKind.bits]; assumption) (by simp only [IntKind.bits]; assumption)) ?_
          refine D0_val rfl rfl rfl (Y_ixa (und rfl) (siz rfl) rfl rfl (nat_cast _) (by omega)) ?_
          refine D0_storeI 4 rfl (siz rfl) rfl rfl rfl (by simp; omega) rfl rfl ?_
          refine D0_nil ?_
          refine X_blk ?_
          refine X_seq ?_
          refine T_region ?_
          refine S_val rfl rfl (Y_move rfl) ?_
          refine S_val rfl rfl (Y_sub rfl rfl (wi64 (by omega) (by omega))) ?_
          refine S_val rfl rfl (Y_assign rfl) ?_
          refine S_nil ?_
          refine X_loop ?_
          refine ⟨i, by omega, by omega, (by repeat (first | exact Env.sub_nil _ | (apply Env.sub_cons; rfl))), [], ?_⟩
          rw [hfin, hb3, hq1.1, hq1.2, Nat.one_mul (2 ^ i), dl_orbit (by omega) hQb]
          rfl
  · have hcmp : ∃ c : Int, 0 ≤ c ∧ ∀ w, Fn Try.prog 22 #[W hi, W y] w fun v N => v = .int .i64 c ∧ N = [] :=
      ⟨cmpI hi y, by unfold cmpI; rw [if_neg h]; split <;> omega, fun w => compare_any hi y hhi hyb w⟩
    obtain ⟨c, hc0, hcmp⟩ := hcmp
    have hq : 2 ^ 256 ≤ (hi * 2 ^ 256 + lo) / y := by
      rw [Nat.le_div_iff_mul_le hy0]
      have : y * 2 ^ 256 ≤ hi * 2 ^ 256 := Nat.mul_le_mul_right _ (by omega)
      rw [Nat.mul_comm]
      exact Nat.le_trans this (Nat.le_add_right _ _)
    refine Fn_of (args := [W lo, W hi, W y]) Try.func69 rfl Try.ntmps69 Try.results69 (by simp) ?_
    refine T_seq ?_
    refine T_region ?_
    refine S_boxA rfl rfl rfl fun _ => ?_
    refine S_boxA rfl rfl rfl fun _ => ?_
    refine S_boxA rfl rfl rfl fun _ => ?_
    refine S_allocA (zer rfl) rfl rfl fun _ => ?_
    refine S_nil ?_
    refine X_seq ?_
    refine T_seq ?_
    refine T_seq ?_
    refine T_region ?_
    refine S_val rfl rfl (Y_loadAI 1 (und rfl) rfl rfl rfl (siz rfl) (dl_length _ _ _)) ?_
    refine S_val rfl rfl (Y_loadAI 2 (und rfl) rfl rfl rfl (siz rfl) (dl_length _ _ _)) ?_
    refine S_callV rfl rfl (bod rfl) (fun w hs => hcmp _) rfl rfl ?_
    refine S_val rfl rfl (Y_geq_t rfl rfl (by assumption)) ?_
    refine S_nil ?_
    refine X_seq ?_
    refine T_cond_true rfl ?_
    refine T_seq ?_
    refine T_region ?_
    refine S_callV rfl rfl (bod rfl) (fun w hs => ones_any _) rfl rfl ?_
    refine S_storeAI 3 (siz rfl) rfl rfl rfl rfl (dl_length _ _ _) rfl ?_
    refine S_nil ?_
    refine X_seq ?_
    refine T_ret ?_
    refine X_seq_ret ?_
    ((first | refine X_fin_ret ?_ | refine X_fin ?_); exact ⟨[_], [], .cons (.agg 3 rfl (und rfl) rfl rfl (siz rfl)) .nil, Emb.nil _, by rw [Nat.min_eq_right (by omega)]; rfl, rfl⟩)

theorem fstep_any (b g t : Nat) (hb : b < 2 ^ 256) (hg : g < 18446744073709551616) (ht : t < 18446744073709551616) (w : World) :
    Fn Try.prog 33 #[W b, .int .u64 g, .int .u64 t] w fun v N => v = W (min (b * g / (t * 8)) (2 ^ 256 - 1)) ∧ N = [] := by
  by_cases h0 : t = 0
  · subst h0
    refine Fn_of (args := [W b, .int .u64 g, .int .u64 (0 : Nat)]) Try.func33 rfl Try.ntmps33 Try.results33 (by simp) ?_
    refine T_seq ?_
    refine T_region ?_
    refine S_boxA rfl rfl rfl fun _ => ?_
    refine S_allocA (zer rfl) rfl rfl fun _ => ?_
    refine S_nil ?_
    refine X_seq ?_
    refine T_seq ?_
    refine T_seq ?_
    refine T_region ?_
    refine S_val rfl rfl (Y_move rfl) ?_
    refine S_val rfl rfl (Y_eql_t rfl rfl (by decide)) ?_
    refine S_nil ?_
    refine X_seq ?_
    refine T_cond_true rfl ?_
    refine T_seq ?_
    refine T_region ?_
    refine S_val rfl rfl (Y_build (und rfl) (siz rfl) (zer rfl) rfl rfl) ?_
    refine S_storeAI 1 (siz rfl) rfl rfl rfl rfl rfl rfl ?_
    refine S_nil ?_
    refine X_seq ?_
    refine T_ret ?_
    refine X_seq_ret ?_
    ((first | refine X_fin_ret ?_ | refine X_fin ?_); exact ⟨[_], [], .cons (.agg 1 rfl (und rfl) rfl rfl (siz rfl)) .nil, Emb.nil _, by rw [Nat.zero_mul, Nat.div_zero, Nat.zero_min]; rfl, rfl⟩)
  · have ht8 : ∀ w, Fn Try.prog 68 #[W t, W 8] w fun v N => v = .tuple #[W (t * 8), W 0] ∧ N = [] := fun w => by
      have := product_any t 8 (by omega) (by omega) w
      rwa [show t * 8 / 2 ^ 256 = 0 by omega] at this
    have hd : b * g < 2 ^ 256 * 2 ^ 256 := Nat.mul_lt_mul'' hb (by omega)
    have hqu := fun w => quotient_any (b * g % 2 ^ 256) (b * g / 2 ^ 256) (t * 8) (Nat.mod_lt _ (by omega)) (Nat.div_lt_of_lt_mul hd) (by omega) (by omega) w
    rw [show b * g / 2 ^ 256 * 2 ^ 256 + b * g % 2 ^ 256 = b * g by omega, W_mod] at hqu
    refine Fn_of (args := [W b, .int .u64 g, .int .u64 t]) Try.func33 rfl Try.ntmps33 Try.results33 (by simp) ?_
    refine T_seq ?_
    refine T_region ?_
    refine S_boxA rfl rfl rfl fun _ => ?_
    refine S_allocA (zer rfl) rfl rfl fun _ => ?_
    refine S_nil ?_
    refine X_seq ?_
    refine T_seq ?_
    refine T_seq ?_
    refine T_region ?_
    refine S_val rfl rfl (Y_move rfl) ?_
    refine S_val rfl rfl (Y_eql_f rfl rfl (by omega)) ?_
    refine S_nil ?_
    refine X_seq ?_
    refine T_cond_false rfl ?_
    refine T_skip ?_
    refine X_seq ?_
    refine T_seq ?_
    rename_i b0 b1
    refine T_drawL (.succ (.succ (.succ (.succ (.succ (.succ (.succ .zero))))))) [.no, .no, .nw 7 (.cells (ints .u64 (List.replicate 4 0)) 24), .nw 8 (.cells (ints .u64 (List.replicate 4 0)) 24)] [blk b0 (.cells (ints .u64 (dl 18446744073709551616 4 (b))) 24 (0, 0)), blk b1 (.cells (ints .u64 (List.replicate 4 0)) 24 (0, 0))] rfl (by kernel_rfl) (Emb.idx [0, 1] rfl rfl) rfl (by kernel_rfl) ?_
    refine D0_valM rfl rfl rfl (Y_loadAI 0 (und rfl) rfl rfl rfl (siz rfl) (dl_length _ _ _)) ?_
    refine D0_val rfl rfl rfl (Y_move rfl) ?_
    refine D0_callV rfl rfl (bod rfl) (fun w hs => of_any g hg _) rfl rfl ?_
    skip
    refine D0_callV rfl rfl (bod rfl) (fun w hs => product_any b g hb (by omega) _) rfl rfl ?_
    refine D0_val rfl rfl rfl (Y_move rfl) ?_
    refine D0_val rfl rfl rfl (Y_extract rfl rfl) ?_
    refine D0_val rfl rfl rfl (Y_extract rfl rfl) ?_
    refine D0_nilL ?_
    refine DL_allocA (zer rfl) rfl rfl rfl rfl rfl rfl ?_
    refine DL_allocA (zer rfl) rfl rfl rfl rfl rfl rfl ?_
    refine DL_storeAI rfl (fun _ => rfl) rfl (siz rfl) (fun _ => rfl) (fun _ => rfl) rfl (dl_length _ _ _) ?_
    refine DL_storeAI rfl (fun _ => rfl) rfl (siz rfl) (fun _ => rfl) (fun _ => rfl) rfl (dl_length _ _ _) ?_
    refine DL_nil fun _ => ?_
    refine X_seq ?_
    refine T_seq ?_
    refine T_region ?_
    refine S_val rfl rfl (Y_move rfl) ?_
    refine S_callV rfl rfl (bod rfl) (fun w hs => of_any t ht _) rfl rfl ?_
    skip
    refine S_callV rfl rfl (bod rfl) (fun w hs => of_any 8 (by omega) _) rfl rfl ?_
    skip
    refine S_callV rfl rfl (bod rfl) (fun w hs => ht8 _) rfl rfl ?_
    refine S_val rfl rfl (Y_move rfl) ?_
    refine S_val rfl rfl (Y_extract rfl rfl) ?_
    refine S_val rfl rfl (Y_extract rfl rfl) ?_
    refine S_allocA (zer rfl) rfl rfl fun _ => ?_
    refine S_allocA (zer rfl) rfl rfl fun _ => ?_
    refine S_storeAI 4 (siz rfl) rfl rfl rfl rfl (dl_length _ _ _) rfl ?_
    refine S_storeAI 5 (siz rfl) rfl rfl rfl rfl (dl_length _ _ _) rfl ?_
    refine S_nil ?_
    refine X_seq ?_
    refine T_seq ?_
    refine T_seq ?_
    refine T_region ?_
    refine S_val rfl rfl (Y_loadAI 5 (und rfl) rfl rfl rfl (siz rfl) (dl_length _ _ _)) ?_
    refine S_val rfl rfl (Y_build (und rfl) (siz rfl) (zer rfl) rfl rfl) ?_
    refine S_val rfl rfl (Y_neqA_f (eqg rfl) (und rfl) (und rfl) (siz rfl) rfl rfl (dl_length _ _ _) rfl) ?_
    refine S_nil ?_
    refine X_seq ?_
    refine T_cond_false rfl ?_
    refine T_skip ?_
    refine X_seq ?_
    refine T_seq ?_
    refine T_region ?_
    refine S_val rfl rfl (Y_loadAI 2 (und rfl) rfl rfl rfl (siz rfl) (dl_length _ _ _)) ?_
    refine S_val rfl rfl (Y_loadAI 3 (und rfl) rfl rfl rfl (siz rfl) (dl_length _ _ _)) ?_
    refine S_val rfl rfl (Y_loadAI 4 (und rfl) rfl rfl rfl (siz rfl) (dl_length _ _ _)) ?_
    refine S_callV rfl rfl (bod rfl) (fun w hs => hqu _) rfl rfl ?_
    refine S_storeAI 1 (siz rfl) rfl rfl rfl rfl (dl_length _ _ _) rfl ?_
    refine S_nil ?_
    refine X_seq ?_
    refine T_ret ?_
    ((first | refine X_fin_ret ?_ | refine X_fin ?_); exact ⟨[_], [], .cons (.agg 1 rfl (und rfl) rfl rfl (siz rfl)) .nil, Emb.nil _, rfl, rfl⟩)

/-- The next base fee. -/
def feeNext (b u l : Nat) : Nat :=
  let t := l / 2
  if t = 0 ∨ u = t then b
  else if u < t then b - min (b * (t - u) / (t * 8)) (2 ^ 256 - 1)
  else min (b + max (min (b * (u - t) / (t * 8)) (2 ^ 256 - 1)) 1) (2 ^ 256 - 1)
theorem feeNext_lt (b u l : Nat) (hb : b < 2 ^ 256) : feeNext b u l < 2 ^ 256 := by
  unfold feeNext
  simp only
  split
  · exact hb
  · split
    · exact Nat.lt_of_le_of_lt (Nat.sub_le _ _) hb
    · omega
theorem fnext_any (b u l : Nat) (hb : b < 2 ^ 256) (hu : u < 18446744073709551616) (hl : l < 18446744073709551616) (w : World) :
    Fn Try.prog 31 #[W b, .int .u64 u, .int .u64 l] w fun v N => v = W (feeNext b u l) ∧ N = [] := by
  by_cases h0 : l / 2 = 0
  · have hr : feeNext b u l = b := by unfold feeNext; simp only [h0]; rfl
    rw [hr]
    refine Fn_of (args := [W b, .int .u64 u, .int .u64 l]) Try.func31 rfl Try.ntmps31 Try.results31 (by simp) ?_
    refine T_seq ?_
    refine T_region ?_
    refine S_boxA rfl rfl rfl fun _ => ?_
    refine S_allocA (zer rfl) rfl rfl fun _ => ?_
    refine S_nil ?_
    refine X_seq ?_
    refine T_seq ?_
    refine T_region ?_
    refine S_val rfl rfl (Y_move rfl) ?_
    refine S_val rfl rfl (Y_quoN rfl rfl (nat_cast _) (nat_lit' _) (Nat.succ_ne_zero _) (by simp only [IntKind.max, IntKind.signed, IntKind.bits, Bool.false_eq_true, if_false, if_true]; omega)) ?_
    refine S_val rfl rfl (Y_assign rfl) ?_
    refine S_nil ?_
    refine X_seq ?_
    refine T_seq ?_
    refine T_block ?_
    refine T_seq ?_
    refine T_region ?_
    refine S_val rfl rfl (Y_move rfl) ?_
    refine S_val rfl rfl (Y_eql_t rfl rfl (by omega)) ?_
    refine S_val rfl rfl (Y_move rfl) ?_
    refine S_skip rfl rfl ?_
    refine S_skip rfl rfl ?_
    refine S_skip rfl rfl ?_
    refine S_val rfl rfl (Y_pick_t rfl rfl) ?_
    refine S_val rfl rfl (Y_assign rfl) ?_
    refine S_nil ?_
    refine X_seq ?_
    refine T_cond_true rfl ?_
    refine T_seq ?_
    refine T_region ?_
    refine S_val rfl rfl (Y_loadAI 0 (und rfl) rfl rfl rfl (siz rfl) (dl_length _ _ _)) ?_
    refine S_storeAI 1 (siz rfl) rfl rfl rfl rfl (dl_length _ _ _) rfl ?_
    refine S_nil ?_
    refine X_seq ?_
    refine T_ret ?_
    refine X_blk_ret ?_
    refine X_seq_ret ?_
    ((first | refine X_fin_ret ?_ | refine X_fin ?_); exact ⟨[_], [], .cons (.agg 1 rfl (und rfl) rfl rfl (siz rfl)) .nil, Emb.nil _, rfl, rfl⟩)
  · by_cases h1 : u = l / 2
    · have hr : feeNext b u l = b := by unfold feeNext; simp only [h1]; rw [if_pos (Or.inr trivial)]
      rw [hr]
      refine Fn_of (args := [W b, .int .u64 u, .int .u64 l]) Try.func31 rfl Try.ntmps31 Try.results31 (by simp) ?_
      refine T_seq ?_
      refine T_region ?_
      refine S_boxA rfl rfl rfl fun _ => ?_
      refine S_allocA (zer rfl) rfl rfl fun _ => ?_
      refine S_nil ?_
      refine X_seq ?_
      refine T_seq ?_
      refine T_region ?_
      refine S_val rfl rfl (Y_move rfl) ?_
      refine S_val rfl rfl (Y_quoN rfl rfl (nat_cast _) (nat_lit' _) (Nat.succ_ne_zero _) (by simp only [IntKind.max, IntKind.signed, IntKind.bits, Bool.false_eq_true, if_false, if_true]; omega)) ?_
      refine S_val rfl rfl (Y_assign rfl) ?_
      refine S_nil ?_
      refine X_seq ?_
      refine T_seq ?_
      refine T_block ?_
      refine T_seq ?_
      refine T_region ?_
      refine S_val rfl rfl (Y_move rfl) ?_
      refine S_val rfl rfl (Y_eql_f rfl rfl (by omega)) ?_
      refine S_val rfl rfl (Y_move rfl) ?_
      refine S_val rfl rfl (Y_move rfl) ?_
      refine S_val rfl rfl (Y_move rfl) ?_
      refine S_val rfl rfl (Y_eql_t rfl rfl (by omega)) ?_
      refine S_val rfl rfl (Y_pick_f rfl rfl) ?_
      refine S_val rfl rfl (Y_assign rfl) ?_
      refine S_nil ?_
      refine X_seq ?_
      refine T_cond_true rfl ?_
      refine T_seq ?_
      refine T_region ?_
      refine S_val rfl rfl (Y_loadAI 0 (und rfl) rfl rfl rfl (siz rfl) (dl_length _ _ _)) ?_
      refine S_storeAI 1 (siz rfl) rfl rfl rfl rfl (dl_length _ _ _) rfl ?_
      refine S_nil ?_
      refine X_seq ?_
      refine T_ret ?_
      refine X_blk_ret ?_
      refine X_seq_ret ?_
      ((first | refine X_fin_ret ?_ | refine X_fin ?_); exact ⟨[_], [], .cons (.agg 1 rfl (und rfl) rfl rfl (siz rfl)) .nil, Emb.nil _, rfl, rfl⟩)
    · by_cases h2 : u < l / 2
      · have hr : feeNext b u l = b - min (b * (l / 2 - u) / (l / 2 * 8)) (2 ^ 256 - 1) := by unfold feeNext; simp only; rw [if_neg (by omega), if_pos h2]
        rw [hr]
        have hst := fun w => fstep_any b (l / 2 - u) (l / 2) hb (by omega) (by omega) w
        have hsl : min (b * (l / 2 - u) / (l / 2 * 8)) (2 ^ 256 - 1) < 2 ^ 256 := by omega
        generalize min (b * (l / 2 - u) / (l / 2 * 8)) (2 ^ 256 - 1) = d at *
        by_cases h3 : b < d
        · have hc : ∃ c : Int, 0 < c ∧ ∀ w, Fn Try.prog 22 #[W d, W b] w fun v N => v = .int .i64 c ∧ N = [] :=
            ⟨cmpI d b, by unfold cmpI; rw [if_neg (by omega), if_neg (by omega)]; omega, fun w => compare_any d b hsl hb w⟩
          obtain ⟨c, hc0, hc⟩ := hc
          refine Fn_of (args := [W b, .int .u64 u, .int .u64 l]) Try.func31 rfl Try.ntmps31 Try.results31 (by simp) ?_
          refine T_seq ?_
          refine T_region ?_
          refine S_boxA rfl rfl rfl fun _ => ?_
          refine S_allocA (zer rfl) rfl rfl fun _ => ?_
          refine S_nil ?_
          refine X_seq ?_
          refine T_seq ?_
          refine T_region ?_
          refine S_val rfl rfl (Y_move rfl) ?_
          refine S_val rfl rfl (Y_quoN rfl rfl (nat_cast _) (nat_lit' _) (Nat.succ_ne_zero _) (by simp only [IntKind.max, IntKind.signed, IntKind.bits, Bool.false_eq_true, if_false, if_true]; omega)) ?_
          refine S_val rfl rfl (Y_assign rfl) ?_
          refine S_nil ?_
          refine X_seq ?_
          refine T_seq ?_
          refine T_block ?_
          refine T_seq ?_
          refine T_region ?_
          refine S_val rfl rfl (Y_move rfl) ?_
          refine S_val rfl rfl (Y_eql_f rfl rfl (by omega)) ?_
          refine S_val rfl rfl (Y_move rfl) ?_
          refine S_val rfl rfl (Y_move rfl) ?_
          refine S_val rfl rfl (Y_move rfl) ?_
          refine S_val rfl rfl (Y_eql_f rfl rfl (by omega)) ?_
          refine S_val rfl rfl (Y_pick_f rfl rfl) ?_
          refine S_val rfl rfl (Y_assign rfl) ?_
          refine S_nil ?_
          refine X_seq ?_
          refine T_cond_false rfl ?_
          refine T_seq ?_
          refine T_region ?_
          refine S_val rfl rfl (Y_move rfl) ?_
          refine S_val rfl rfl (Y_move rfl) ?_
          refine S_val rfl rfl (Y_lss_t rfl rfl (by omega)) ?_
          refine S_val rfl rfl (Y_assign rfl) ?_
          refine S_nil ?_
          refine X_seq ?_
          refine T_cond_true rfl ?_
          refine T_seq ?_
          refine T_region ?_
          refine S_val rfl rfl (Y_loadAI 0 (und rfl) rfl rfl rfl (siz rfl) (dl_length _ _ _)) ?_
          refine S_val rfl rfl (Y_move rfl) ?_
          refine S_val rfl rfl (Y_move rfl) ?_
          refine S_val rfl rfl (Y_subU rfl rfl (nat_cast _) (nat_cast _) rfl (by omega) (by simp only [IntKind.bits]; omega)) ?_
          refine S_val rfl rfl (Y_move rfl) ?_
          refine S_callV rfl rfl (bod rfl) (fun w hs => hst _) rfl rfl ?_
          refine S_allocA (zer rfl) rfl rfl fun _ => ?_
          refine S_storeAI 2 (siz rfl) rfl rfl rfl rfl (dl_length _ _ _) rfl ?_
          refine S_nil ?_
          refine X_seq ?_
          refine T_seq ?_
          refine T_seq ?_
          refine T_region ?_
          refine S_val rfl rfl (Y_loadAI 2 (und rfl) rfl rfl rfl (siz rfl) (dl_length _ _ _)) ?_
          refine S_val rfl rfl (Y_loadAI 0 (und rfl) rfl rfl rfl (siz rfl) (dl_length _ _ _)) ?_
          refine S_callV rfl rfl (bod rfl) (fun w hs => hc _) rfl rfl ?_
          refine S_val rfl rfl (Y_gtr_t rfl rfl (by assumption)) ?_
          refine S_nil ?_
          refine X_seq ?_
          refine T_cond_true rfl ?_
          refine T_seq ?_
          refine T_region ?_
          refine S_val rfl rfl (Y_build (und rfl) (siz rfl) (zer rfl) rfl rfl) ?_
          refine S_storeAI 1 (siz rfl) rfl rfl rfl rfl rfl rfl ?_
          refine S_nil ?_
          refine X_seq ?_
          refine T_ret ?_
          refine X_seq_ret ?_
          refine X_blk_ret ?_
          refine X_seq_ret ?_
          ((first | refine X_fin_ret ?_ | refine X_fin ?_); exact ⟨[_], [], .cons (.agg 1 rfl (und rfl) rfl rfl (siz rfl)) .nil, Emb.nil _, by rw [show b - d = 0 by omega]; rfl, rfl⟩)
        · have hc : ∃ c : Int, ¬ 0 < c ∧ ∀ w, Fn Try.prog 22 #[W d, W b] w fun v N => v = .int .i64 c ∧ N = [] :=
            ⟨cmpI d b, by unfold cmpI; split; omega; split <;> omega, fun w => compare_any d b hsl hb w⟩
          obtain ⟨c, hc0, hc⟩ := hc
          refine Fn_of (args := [W b, .int .u64 u, .int .u64 l]) Try.func31 rfl Try.ntmps31 Try.results31 (by simp) ?_
          refine T_seq ?_
          refine T_region ?_
          refine S_boxA rfl rfl rfl fun _ => ?_
          refine S_allocA (zer rfl) rfl rfl fun _ => ?_
          refine S_nil ?_
          refine X_seq ?_
          refine T_seq ?_
          refine T_region ?_
          refine S_val rfl rfl (Y_move rfl) ?_
          refine S_val rfl rfl (Y_quoN rfl rfl (nat_cast _) (nat_lit' _) (Nat.succ_ne_zero _) (by simp only [IntKind.max, IntKind.signed, IntKind.bits, Bool.false_eq_true, if_false, if_true]; omega)) ?_
          refine S_val rfl rfl (Y_assign rfl) ?_
          refine S_nil ?_
          refine X_seq ?_
          refine T_seq ?_
          refine T_block ?_
          refine T_seq ?_
          refine T_region ?_
          refine S_val rfl rfl (Y_move rfl) ?_
          refine S_val rfl rfl (Y_eql_f rfl rfl (by omega)) ?_
          refine S_val rfl rfl (Y_move rfl) ?_
          refine S_val rfl rfl (Y_move rfl) ?_
          refine S_val rfl rfl (Y_move rfl) ?_
          refine S_val rfl rfl (Y_eql_f rfl rfl (by omega)) ?_
          refine S_val rfl rfl (Y_pick_f rfl rfl) ?_
          refine S_val rfl rfl (Y_assign rfl) ?_
          refine S_nil ?_
          refine X_seq ?_
          refine T_cond_false rfl ?_
          refine T_seq ?_
          refine T_region ?_
          refine S_val rfl rfl (Y_move rfl) ?_
          refine S_val rfl rfl (Y_move rfl) ?_
          refine S_val rfl rfl (Y_lss_t rfl rfl (by omega)) ?_
          refine S_val rfl rfl (Y_assign rfl) ?_
          refine S_nil ?_
          refine X_seq ?_
          refine T_cond_true rfl ?_
          refine T_seq ?_
          refine T_region ?_
          refine S_val rfl rfl (Y_loadAI 0 (und rfl) rfl rfl rfl (siz rfl) (dl_length _ _ _)) ?_
          refine S_val rfl rfl (Y_move rfl) ?_
          refine S_val rfl rfl (Y_move rfl) ?_
          refine S_val rfl rfl (Y_subU rfl rfl (nat_cast _) (nat_cast _) rfl (by omega) (by simp only [IntKind.bits]; omega)) ?_
          refine S_val rfl rfl (Y_move rfl) ?_
          refine S_callV rfl rfl (bod rfl) (fun w hs => hst _) rfl rfl ?_
          refine S_allocA (zer rfl) rfl rfl fun _ => ?_
          refine S_storeAI 2 (siz rfl) rfl rfl rfl rfl (dl_length _ _ _) rfl ?_
          refine S_nil ?_
          refine X_seq ?_
          refine T_seq ?_
          refine T_seq ?_
          refine T_region ?_
          refine S_val rfl rfl (Y_loadAI 2 (und rfl) rfl rfl rfl (siz rfl) (dl_length _ _ _)) ?_
          refine S_val rfl rfl (Y_loadAI 0 (und rfl) rfl rfl rfl (siz rfl) (dl_length _ _ _)) ?_
          refine S_callV rfl rfl (bod rfl) (fun w hs => hc _) rfl rfl ?_
          refine S_val rfl rfl (Y_gtr_f rfl rfl (by assumption)) ?_
          refine S_nil ?_
          refine X_seq ?_
          refine T_cond_false rfl ?_
          refine T_skip ?_
          refine X_seq ?_
          refine T_seq ?_
          refine T_region ?_
          refine S_val rfl rfl (Y_loadAI 0 (und rfl) rfl rfl rfl (siz rfl) (dl_length _ _ _)) ?_
          refine S_val rfl rfl (Y_loadAI 2 (und rfl) rfl rfl rfl (siz rfl) (dl_length _ _ _)) ?_
          refine S_callV rfl rfl (bod rfl) (fun w hs => sub_any b d hb hsl _) rfl rfl ?_
          refine S_storeAI 1 (siz rfl) rfl rfl rfl rfl (dl_length _ _ _) rfl ?_
          refine S_nil ?_
          refine X_seq ?_
          refine T_ret ?_
          refine X_blk_ret ?_
          refine X_seq_ret ?_
          ((first | refine X_fin_ret ?_ | refine X_fin ?_); exact ⟨[_], [], .cons (.agg 1 rfl (und rfl) rfl rfl (siz rfl)) .nil, Emb.nil _, by rw [show (b + 2 ^ 256 - d) % 2 ^ 256 = b - d by omega]; rfl, rfl⟩)
      · have hr : feeNext b u l = min (b + max (min (b * (u - l / 2) / (l / 2 * 8)) (2 ^ 256 - 1)) 1) (2 ^ 256 - 1) := by unfold feeNext; simp only; rw [if_neg (by omega), if_neg h2]
        rw [hr]
        have hst := fun w => fstep_any b (u - l / 2) (l / 2) hb (by omega) (by omega) w
        have hsl : min (b * (u - l / 2) / (l / 2 * 8)) (2 ^ 256 - 1) < 2 ^ 256 := by omega
        generalize min (b * (u - l / 2) / (l / 2 * 8)) (2 ^ 256 - 1) = d at *
        have e0 : dl 18446744073709551616 4 0 = fillI (List.replicate 4 0) [] := by decide +kernel
        have hc : ∀ d, d < 2 ^ 256 → 0 < d → (b + d < 2 ^ 256 ∧ ∃ c : Int, ¬ c < 0 ∧ ∀ w, Fn Try.prog 22 #[W ((b + d) % 2 ^ 256), W b] w fun v N => v = .int .i64 c ∧ N = []) ∨
            (2 ^ 256 ≤ b + d ∧ ∃ c : Int, c < 0 ∧ ∀ w, Fn Try.prog 22 #[W ((b + d) % 2 ^ 256), W b] w fun v N => v = .int .i64 c ∧ N = []) := fun d hd hd0 => by
          by_cases h : b + d < 2 ^ 256
          · exact .inl ⟨h, cmpI ((b + d) % 2 ^ 256) b, by unfold cmpI; rw [if_neg (by omega)]; split <;> omega, fun w => compare_any _ b (Nat.mod_lt _ (by omega)) hb w⟩
          · exact .inr ⟨by omega, cmpI ((b + d) % 2 ^ 256) b, by unfold cmpI; rw [if_pos (by omega)]; omega, fun w => compare_any _ b (Nat.mod_lt _ (by omega)) hb w⟩
        by_cases h3 : d = 0
        · have e1 : dl 18446744073709551616 4 d = fillI (List.replicate 4 0) [] := by rw [h3]; exact e0
          rcases hc 1 (by omega) (by omega) with ⟨h4, c, hc0, hc⟩ | ⟨h4, c, hc0, hc⟩
          · refine Fn_of (args := [W b, .int .u64 u, .int .u64 l]) Try.func31 rfl Try.ntmps31 Try.results31 (by simp) ?_
            refine T_seq ?_
            refine T_region ?_
            refine S_boxA rfl rfl rfl fun _ => ?_
            refine S_allocA (zer rfl) rfl rfl fun _ => ?_
            refine S_nil ?_
            refine X_seq ?_
            refine T_seq ?_
            refine T_region ?_
            refine S_val rfl rfl (Y_move rfl) ?_
            refine S_val rfl rfl (Y_quoN rfl rfl (nat_cast _) (nat_lit' _) (Nat.succ_ne_zero _) (by simp only [IntKind.max, IntKind.signed, IntKind.bits, Bool.false_eq_true, if_false, if_true]; omega)) ?_
            refine S_val rfl rfl (Y_assign rfl) ?_
            refine S_nil ?_
            refine X_seq ?_
            refine T_seq ?_
            refine T_block ?_
            refine T_seq ?_
            refine T_region ?_
            refine S_val rfl rfl (Y_move rfl) ?_
            refine S_val rfl rfl (Y_eql_f rfl rfl (by omega)) ?_
            refine S_val rfl rfl (Y_move rfl) ?_
            refine S_val rfl rfl (Y_move rfl) ?_
            refine S_val rfl rfl (Y_move rfl) ?_
            refine S_val rfl rfl (Y_eql_f rfl rfl (by omega)) ?_
            refine S_val rfl rfl (Y_pick_f rfl rfl) ?_
            refine S_val rfl rfl (Y_assign rfl) ?_
            refine S_nil ?_
            refine X_seq ?_
            refine T_cond_false rfl ?_
            refine T_seq ?_
            refine T_region ?_
            refine S_val rfl rfl (Y_move rfl) ?_
            refine S_val rfl rfl (Y_move rfl) ?_
            refine S_val rfl rfl (Y_lss_f rfl rfl (by omega)) ?_
            refine S_val rfl rfl (Y_assign rfl) ?_
            refine S_nil ?_
            refine X_seq ?_
            refine T_cond_false rfl ?_
            refine T_skip ?_
            refine X_blk ?_
            refine X_seq ?_
            refine T_seq ?_
            refine T_region ?_
            refine S_val rfl rfl (Y_loadAI 0 (und rfl) rfl rfl rfl (siz rfl) (dl_length _ _ _)) ?_
            refine S_val rfl rfl (Y_move rfl) ?_
            refine S_val rfl rfl (Y_move rfl) ?_
            refine S_val rfl rfl (Y_subU rfl rfl (nat_cast _) (nat_cast _) rfl (by omega) (by simp only [IntKind.bits]; assumption)) ?_
            refine S_val rfl rfl (Y_move rfl) ?_
            refine S_callV rfl rfl (bod rfl) (fun w hs => hst _) rfl rfl ?_
            refine S_allocA (zer rfl) rfl rfl fun _ => ?_
            refine S_storeAI 2 (siz rfl) rfl rfl rfl rfl (dl_length _ _ _) rfl ?_
            refine S_nil ?_
            refine X_seq ?_
            refine T_seq ?_
            refine T_seq ?_
            refine T_region ?_
            refine S_val rfl rfl (Y_loadAI 2 (und rfl) rfl rfl rfl (siz rfl) (dl_length _ _ _)) ?_
            refine S_val rfl rfl (Y_build (und rfl) (siz rfl) (zer rfl) rfl rfl) ?_
            refine S_val rfl rfl (Y_eqlA_t (eqg rfl) (und rfl) (und rfl) (siz rfl) rfl rfl (dl_length _ _ _) (by assumption)) ?_
            refine S_nil ?_
            refine X_seq ?_
            refine T_cond_true rfl ?_
            refine T_region ?_
            refine S_callV rfl rfl (bod rfl) (fun w hs => of_any 1 (by omega) _) rfl rfl ?_
            refine S_storeAI 2 (siz rfl) rfl rfl rfl (dl_length _ _ _) (dl_length _ _ _) rfl ?_
            refine S_nil ?_
            refine X_seq ?_
            refine T_seq ?_
            refine T_region ?_
            refine S_val rfl rfl (Y_loadAI 0 (und rfl) rfl rfl rfl (siz rfl) (dl_length _ _ _)) ?_
            refine S_val rfl rfl (Y_loadAI 2 (und rfl) rfl rfl rfl (siz rfl) (dl_length _ _ _)) ?_
            refine S_callV rfl rfl (bod rfl) (fun w hs => add_any b 1 hb (by omega) _) rfl rfl ?_
            refine S_allocA (zer rfl) rfl rfl fun _ => ?_
            refine S_storeAI 3 (siz rfl) rfl rfl rfl rfl (dl_length _ _ _) rfl ?_
            refine S_nil ?_
            refine X_seq ?_
            refine T_seq ?_
            refine T_seq ?_
            refine T_region ?_
            refine S_val rfl rfl (Y_loadAI 3 (und rfl) rfl rfl rfl (siz rfl) (dl_length _ _ _)) ?_
            refine S_val rfl rfl (Y_loadAI 0 (und rfl) rfl rfl rfl (siz rfl) (dl_length _ _ _)) ?_
            refine S_callV rfl rfl (bod rfl) (fun w hs => hc _) rfl rfl ?_
            refine S_val rfl rfl (Y_lss_f rfl rfl (by assumption)) ?_
            refine S_nil ?_
            refine X_seq ?_
            refine T_cond_false rfl ?_
            refine T_skip ?_
            refine X_seq ?_
            refine T_seq ?_
            refine T_region ?_
            refine S_val rfl rfl (Y_loadAI 3 (und rfl) rfl rfl rfl (siz rfl) (dl_length _ _ _)) ?_
            refine S_storeAI 1 (siz rfl) rfl rfl rfl rfl (dl_length _ _ _) rfl ?_
            refine S_nil ?_
            refine X_seq ?_
            refine T_ret ?_
            ((first | refine X_fin_ret ?_ | refine X_fin ?_); exact ⟨[_], [], .cons (.agg 1 rfl (und rfl) rfl rfl (siz rfl)) .nil, Emb.nil _, by rw [h3, show min (b + max 0 1) (2 ^ 256 - 1) = (b + 1) % 2 ^ 256 by omega]; rfl, rfl⟩)
          · refine Fn_of (args := [W b, .int .u64 u, .int .u64 l]) Try.func31 rfl Try.ntmps31 Try.results31 (by simp) ?_
            refine T_seq ?_
            refine T_region ?_
            refine S_boxA rfl rfl rfl fun _ => ?_
            refine S_allocA (zer rfl) rfl rfl fun _ => ?_
            refine S_nil ?_
            refine X_seq ?_
            refine T_seq ?_
            refine T_region ?_
            refine S_val rfl rfl (Y_move rfl) ?_
            refine S_val rfl rfl (Y_quoN rfl rfl (nat_cast _) (nat_lit' _) (Nat.succ_ne_zero _) (by simp only [IntKind.max, IntKind.signed, IntKind.bits, Bool.false_eq_true, if_false, if_true]; omega)) ?_
            refine S_val rfl rfl (Y_assign rfl) ?_
            refine S_nil ?_
            refine X_seq ?_
            refine T_seq ?_
            refine T_block ?_
            refine T_seq ?_
            refine T_region ?_
            refine S_val rfl rfl (Y_move rfl) ?_
            refine S_val rfl rfl (Y_eql_f rfl rfl (by omega)) ?_
            refine S_val rfl rfl (Y_move rfl) ?_
            refine S_val rfl rfl (Y_move rfl) ?_
            refine S_val rfl rfl (Y_move rfl) ?_
            refine S_val rfl rfl (Y_eql_f rfl rfl (by omega)) ?_
            refine S_val rfl rfl (Y_pick_f rfl rfl) ?_
            refine S_val rfl rfl (Y_assign rfl) ?_
            refine S_nil ?_
            refine X_seq ?_
            refine T_cond_false rfl ?_
            refine T_seq ?_
            refine T_region ?_
            refine S_val rfl rfl (Y_move rfl) ?_
            refine S_val rfl rfl (Y_move rfl) ?_
            refine S_val rfl rfl (Y_lss_f rfl rfl (by omega)) ?_
            refine S_val rfl rfl (Y_assign rfl) ?_
            refine S_nil ?_
            refine X_seq ?_
            refine T_cond_false rfl ?_
            refine T_skip ?_
            refine X_blk ?_
            refine X_seq ?_
            refine T_seq ?_
            refine T_region ?_
            refine S_val rfl rfl (Y_loadAI 0 (und rfl) rfl rfl rfl (siz rfl) (dl_length _ _ _)) ?_
            refine S_val rfl rfl (Y_move rfl) ?_
            refine S_val rfl rfl (Y_move rfl) ?_
            refine S_val rfl rfl (Y_subU rfl rfl (nat_cast _) (nat_cast _) rfl (by omega) (by simp only [IntKind.bits]; assumption)) ?_
            refine S_val rfl rfl (Y_move rfl) ?_
            refine S_callV rfl rfl (bod rfl) (fun w hs => hst _) rfl rfl ?_
            refine S_allocA (zer rfl) rfl rfl fun _ => ?_
            refine S_storeAI 2 (siz rfl) rfl rfl rfl rfl (dl_length _ _ _) rfl ?_
            refine S_nil ?_
            refine X_seq ?_
            refine T_seq ?_
            refine T_seq ?_
            refine T_region ?_
            refine S_val rfl rfl (Y_loadAI 2 (und rfl) rfl rfl rfl (siz rfl) (dl_length _ _ _)) ?_
            refine S_val rfl rfl (Y_build (und rfl) (siz rfl) (zer rfl) rfl rfl) ?_
            refine S_val rfl rfl (Y_eqlA_t (eqg rfl) (und rfl) (und rfl) (siz rfl) rfl rfl (dl_length _ _ _) (by assumption)) ?_
            refine S_nil ?_
            refine X_seq ?_
            refine T_cond_true rfl ?_
            refine T_region ?_
            refine S_callV rfl rfl (bod rfl) (fun w hs => of_any 1 (by omega) _) rfl rfl ?_
            refine S_storeAI 2 (siz rfl) rfl rfl rfl (dl_length _ _ _) (dl_length _ _ _) rfl ?_
            refine S_nil ?_
            refine X_seq ?_
            refine T_seq ?_
            refine T_region ?_
            refine S_val rfl rfl (Y_loadAI 0 (und rfl) rfl rfl rfl (siz rfl) (dl_length _ _ _)) ?_
            refine S_val rfl rfl (Y_loadAI 2 (und rfl) rfl rfl rfl (siz rfl) (dl_length _ _ _)) ?_
            refine S_callV rfl rfl (bod rfl) (fun w hs => add_any b 1 hb (by omega) _) rfl rfl ?_
            refine S_allocA (zer rfl) rfl rfl fun _ => ?_
            refine S_storeAI 3 (siz rfl) rfl rfl rfl rfl (dl_length _ _ _) rfl ?_
            refine S_nil ?_
            refine X_seq ?_
            refine T_seq ?_
            refine T_seq ?_
            refine T_region ?_
            refine S_val rfl rfl (Y_loadAI 3 (und rfl) rfl rfl rfl (siz rfl) (dl_length _ _ _)) ?_
            refine S_val rfl rfl (Y_loadAI 0 (und rfl) rfl rfl rfl (siz rfl) (dl_length _ _ _)) ?_
            refine S_callV rfl rfl (bod rfl) (fun w hs => hc _) rfl rfl ?_
            refine S_val rfl rfl (Y_lss_t rfl rfl (by assumption)) ?_
            refine S_nil ?_
            refine X_seq ?_
            refine T_cond_true rfl ?_
            refine T_seq ?_
            refine T_region ?_
            refine S_callV rfl rfl (bod rfl) (fun w hs => ones_any _) rfl rfl ?_
            refine S_storeAI 1 (siz rfl) rfl rfl rfl rfl (dl_length _ _ _) rfl ?_
            refine S_nil ?_
            refine X_seq ?_
            refine T_ret ?_
            refine X_seq_ret ?_
            ((first | refine X_fin_ret ?_ | refine X_fin ?_); exact ⟨[_], [], .cons (.agg 1 rfl (und rfl) rfl rfl (siz rfl)) .nil, Emb.nil _, by rw [h3, show min (b + max 0 1) (2 ^ 256 - 1) = 2 ^ 256 - 1 by omega]; rfl, rfl⟩)
        · have e1 : ¬ dl 18446744073709551616 4 d = fillI (List.replicate 4 0) [] := by rw [← e0]; exact W_ne hsl (by omega) h3
          rcases hc d hsl (by omega) with ⟨h4, c, hc0, hc⟩ | ⟨h4, c, hc0, hc⟩
          · refine Fn_of (args := [W b, .int .u64 u, .int .u64 l]) Try.func31 rfl Try.ntmps31 Try.results31 (by simp) ?_
            refine T_seq ?_
            refine T_region ?_
            refine S_boxA rfl rfl rfl fun _ => ?_
            refine S_allocA (zer rfl) rfl rfl fun _ => ?_
            refine S_nil ?_
            refine X_seq ?_
            refine T_seq ?_
            refine T_region ?_
            refine S_val rfl rfl (Y_move rfl) ?_
            refine S_val rfl rfl (Y_quoN rfl rfl (nat_cast _) (nat_lit' _) (Nat.succ_ne_zero _) (by simp only [IntKind.max, IntKind.signed, IntKind.bits, Bool.false_eq_true, if_false, if_true]; omega)) ?_
            refine S_val rfl rfl (Y_assign rfl) ?_
            refine S_nil ?_
            refine X_seq ?_
            refine T_seq ?_
            refine T_block ?_
            refine T_seq ?_
            refine T_region ?_
            refine S_val rfl rfl (Y_move rfl) ?_
            refine S_val rfl rfl (Y_eql_f rfl rfl (by omega)) ?_
            refine S_val rfl rfl (Y_move rfl) ?_
            refine S_val rfl rfl (Y_move rfl) ?_
            refine S_val rfl rfl (Y_move rfl) ?_
            refine S_val rfl rfl (Y_eql_f rfl rfl (by omega)) ?_
            refine S_val rfl rfl (Y_pick_f rfl rfl) ?_
            refine S_val rfl rfl (Y_assign rfl) ?_
            refine S_nil ?_
            refine X_seq ?_
            refine T_cond_false rfl ?_
            refine T_seq ?_
            refine T_region ?_
            refine S_val rfl rfl (Y_move rfl) ?_
            refine S_val rfl rfl (Y_move rfl) ?_
            refine S_val rfl rfl (Y_lss_f rfl rfl (by omega)) ?_
            refine S_val rfl rfl (Y_assign rfl) ?_
            refine S_nil ?_
            refine X_seq ?_
            refine T_cond_false rfl ?_
            refine T_skip ?_
            refine X_blk ?_
            refine X_seq ?_
            refine T_seq ?_
            refine T_region ?_
            refine S_val rfl rfl (Y_loadAI 0 (und rfl) rfl rfl rfl (siz rfl) (dl_length _ _ _)) ?_
            refine S_val rfl rfl (Y_move rfl) ?_
            refine S_val rfl rfl (Y_move rfl) ?_
            refine S_val rfl rfl (Y_subU rfl rfl (nat_cast _) (nat_cast _) rfl (by omega) (by simp only [IntKind.bits]; assumption)) ?_
            refine S_val rfl rfl (Y_move rfl) ?_
            refine S_callV rfl rfl (bod rfl) (fun w hs => hst _) rfl rfl ?_
            refine S_allocA (zer rfl) rfl rfl fun _ => ?_
            refine S_storeAI 2 (siz rfl) rfl rfl rfl rfl (dl_length _ _ _) rfl ?_
            refine S_nil ?_
            refine X_seq ?_
            refine T_seq ?_
            refine T_seq ?_
            refine T_region ?_
            refine S_val rfl rfl (Y_loadAI 2 (und rfl) rfl rfl rfl (siz rfl) (dl_length _ _ _)) ?_
            refine S_val rfl rfl (Y_build (und rfl) (siz rfl) (zer rfl) rfl rfl) ?_
            refine S_val rfl rfl (Y_eqlA_f (eqg rfl) (und rfl) (und rfl) (siz rfl) rfl rfl (dl_length _ _ _) rfl (by assumption)) ?_
            refine S_nil ?_
            refine X_seq ?_
            refine T_cond_false rfl ?_
            refine T_skip ?_
            refine X_seq ?_
            refine T_seq ?_
            refine T_region ?_
            refine S_val rfl rfl (Y_loadAI 0 (und rfl) rfl rfl rfl (siz rfl) (dl_length _ _ _)) ?_
            refine S_val rfl rfl (Y_loadAI 2 (und rfl) rfl rfl rfl (siz rfl) (dl_length _ _ _)) ?_
            refine S_callV rfl rfl (bod rfl) (fun w hs => add_any b d hb hsl _) rfl rfl ?_
            refine S_allocA (zer rfl) rfl rfl fun _ => ?_
            refine S_storeAI 3 (siz rfl) rfl rfl rfl rfl (dl_length _ _ _) rfl ?_
            refine S_nil ?_
            refine X_seq ?_
            refine T_seq ?_
            refine T_seq ?_
            refine T_region ?_
            refine S_val rfl rfl (Y_loadAI 3 (und rfl) rfl rfl rfl (siz rfl) (dl_length _ _ _)) ?_
            refine S_val rfl rfl (Y_loadAI 0 (und rfl) rfl rfl rfl (siz rfl) (dl_length _ _ _)) ?_
            refine S_callV rfl rfl (bod rfl) (fun w hs => hc _) rfl rfl ?_
            refine S_val rfl rfl (Y_lss_f rfl rfl (by assumption)) ?_
            refine S_nil ?_
            refine X_seq ?_
            refine T_cond_false rfl ?_
            refine T_skip ?_
            refine X_seq ?_
            refine T_seq ?_
            refine T_region ?_
            refine S_val rfl rfl (Y_loadAI 3 (und rfl) rfl rfl rfl (siz rfl) (dl_length _ _ _)) ?_
            refine S_storeAI 1 (siz rfl) rfl rfl rfl rfl (dl_length _ _ _) rfl ?_
            refine S_nil ?_
            refine X_seq ?_
            refine T_ret ?_
            ((first | refine X_fin_ret ?_ | refine X_fin ?_); exact ⟨[_], [], .cons (.agg 1 rfl (und rfl) rfl rfl (siz rfl)) .nil, Emb.nil _, by rw [show min (b + max d 1) (2 ^ 256 - 1) = (b + d) % 2 ^ 256 by omega]; rfl, rfl⟩)
          · refine Fn_of (args := [W b, .int .u64 u, .int .u64 l]) Try.func31 rfl Try.ntmps31 Try.results31 (by simp) ?_
            refine T_seq ?_
            refine T_region ?_
            refine S_boxA rfl rfl rfl fun _ => ?_
            refine S_allocA (zer rfl) rfl rfl fun _ => ?_
            refine S_nil ?_
            refine X_seq ?_
            refine T_seq ?_
            refine T_region ?_
            refine S_val rfl rfl (Y_move rfl) ?_
            refine S_val rfl rfl (Y_quoN rfl rfl (nat_cast _) (nat_lit' _) (Nat.succ_ne_zero _) (by simp only [IntKind.max, IntKind.signed, IntKind.bits, Bool.false_eq_true, if_false, if_true]; omega)) ?_
            refine S_val rfl rfl (Y_assign rfl) ?_
            refine S_nil ?_
            refine X_seq ?_
            refine T_seq ?_
            refine T_block ?_
            refine T_seq ?_
            refine T_region ?_
            refine S_val rfl rfl (Y_move rfl) ?_
            refine S_val rfl rfl (Y_eql_f rfl rfl (by omega)) ?_
            refine S_val rfl rfl (Y_move rfl) ?_
            refine S_val rfl rfl (Y_move rfl) ?_
            refine S_val rfl rfl (Y_move rfl) ?_
            refine S_val rfl rfl (Y_eql_f rfl rfl (by omega)) ?_
            refine S_val rfl rfl (Y_pick_f rfl rfl) ?_
            refine S_val rfl rfl (Y_assign rfl) ?_
            refine S_nil ?_
            refine X_seq ?_
            refine T_cond_false rfl ?_
            refine T_seq ?_
            refine T_region ?_
            refine S_val rfl rfl (Y_move rfl) ?_
            refine S_val rfl rfl (Y_move rfl) ?_
            refine S_val rfl rfl (Y_lss_f rfl rfl (by omega)) ?_
            refine S_val rfl rfl (Y_assign rfl) ?_
            refine S_nil ?_
            refine X_seq ?_
            refine T_cond_false rfl ?_
            refine T_skip ?_
            refine X_blk ?_
            refine X_seq ?_
            refine T_seq ?_
            refine T_region ?_
            refine S_val rfl rfl (Y_loadAI 0 (und rfl) rfl rfl rfl (siz rfl) (dl_length _ _ _)) ?_
            refine S_val rfl rfl (Y_move rfl) ?_
            refine S_val rfl rfl (Y_move rfl) ?_
            refine S_val rfl rfl (Y_subU rfl rfl (nat_cast _) (nat_cast _) rfl (by omega) (by simp only [IntKind.bits]; assumption)) ?_
            refine S_val rfl rfl (Y_move rfl) ?_
            refine S_callV rfl rfl (bod rfl) (fun w hs => hst _) rfl rfl ?_
            refine S_allocA (zer rfl) rfl rfl fun _ => ?_
            refine S_storeAI 2 (siz rfl) rfl rfl rfl rfl (dl_length _ _ _) rfl ?_
            refine S_nil ?_
            refine X_seq ?_
            refine T_seq ?_
            refine T_seq ?_
            refine T_region ?_
            refine S_val rfl rfl (Y_loadAI 2 (und rfl) rfl rfl rfl (siz rfl) (dl_length _ _ _)) ?_
            refine S_val rfl rfl (Y_build (und rfl) (siz rfl) (zer rfl) rfl rfl) ?_
            refine S_val rfl rfl (Y_eqlA_f (eqg rfl) (und rfl) (und rfl) (siz rfl) rfl rfl (dl_length _ _ _) rfl (by assumption)) ?_
            refine S_nil ?_
            refine X_seq ?_
            refine T_cond_false rfl ?_
            refine T_skip ?_
            refine X_seq ?_
            refine T_seq ?_
            refine T_region ?_
            refine S_val rfl rfl (Y_loadAI 0 (und rfl) rfl rfl rfl (siz rfl) (dl_length _ _ _)) ?_
            refine S_val rfl rfl (Y_loadAI 2 (und rfl) rfl rfl rfl (siz rfl) (dl_length _ _ _)) ?_
            refine S_callV rfl rfl (bod rfl) (fun w hs => add_any b d hb hsl _) rfl rfl ?_
            refine S_allocA (zer rfl) rfl rfl fun _ => ?_
            refine S_storeAI 3 (siz rfl) rfl rfl rfl rfl (dl_length _ _ _) rfl ?_
            refine S_nil ?_
            refine X_seq ?_
            refine T_seq ?_
            refine T_seq ?_
            refine T_region ?_
            refine S_val rfl rfl (Y_loadAI 3 (und rfl) rfl rfl rfl (siz rfl) (dl_length _ _ _)) ?_
            refine S_val rfl rfl (Y_loadAI 0 (und rfl) rfl rfl rfl (siz rfl) (dl_length _ _ _)) ?_
            refine S_callV rfl rfl (bod rfl) (fun w hs => hc _) rfl rfl ?_
            refine S_val rfl rfl (Y_lss_t rfl rfl (by assumption)) ?_
            refine S_nil ?_
            refine X_seq ?_
            refine T_cond_true rfl ?_
            refine T_seq ?_
            refine T_region ?_
            refine S_callV rfl rfl (bod rfl) (fun w hs => ones_any _) rfl rfl ?_
            refine S_storeAI 1 (siz rfl) rfl rfl rfl rfl (dl_length _ _ _) rfl ?_
            refine S_nil ?_
            refine X_seq ?_
            refine T_ret ?_
            refine X_seq_ret ?_
            ((first | refine X_fin_ret ?_ | refine X_fin ?_); exact ⟨[_], [], .cons (.agg 1 rfl (und rfl) rfl rfl (siz rfl)) .nil, Emb.nil _, by rw [show min (b + max d 1) (2 ^ 256 - 1) = 2 ^ 256 - 1 by omega]; rfl, rfl⟩)
end Go.Proofs.Ytepmghjiemggpaa
