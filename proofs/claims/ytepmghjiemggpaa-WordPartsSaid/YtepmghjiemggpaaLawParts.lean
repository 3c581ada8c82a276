import Derived.Test.YtepmghjiemggpaaLaw01
import Derived.Test.YtepmghjiemggpaaRef5
/- The law WordParts hands back true. -/
namespace Go.Proofs.Ytepmghjiemggpaa
open Go.RowKit
set_option maxRecDepth 10000
set_option maxHeartbeats 4000000

theorem bitLen_le256 (x : Nat) (h : x < 2 ^ 256) : bitLen x ≤ 256 := by
  unfold bitLen
  split
  · omega
  · rename_i h0
    have := (Nat.log2_lt h0).2 h
    omega
theorem small_digits (x : Nat) (hx : x < 2 ^ 256) : (x < 18446744073709551616 ∧ x / 18446744073709551616 ^ 1 % 18446744073709551616 = 0 ∧ x / 18446744073709551616 ^ 2 % 18446744073709551616 = 0 ∧ x / 18446744073709551616 ^ 3 % 18446744073709551616 = 0) ∨
    (¬ x < 18446744073709551616 ∧ (x / 18446744073709551616 ^ 1 % 18446744073709551616 ≠ 0 ∨ x / 18446744073709551616 ^ 2 % 18446744073709551616 ≠ 0 ∨ x / 18446744073709551616 ^ 3 % 18446744073709551616 ≠ 0)) := by
  by_cases h : x < 18446744073709551616
  · left
    rw [Nat.div_eq_of_lt (by omega), Nat.div_eq_of_lt (by omega), Nat.div_eq_of_lt (by omega)]
    exact ⟨h, rfl, rfl, rfl⟩
  · right
    omega
theorem parts_any (x : Nat) (hx : x < 2 ^ 256) (y : Nat) (hy : y < 2 ^ 256) (n : Nat) (hn : n < 18446744073709551616) (w : World) : Fn Try.prog 4 #[W x, W y, .int .u64 n] w fun v N => v = .bool true ∧ N = [] := by
  have hl := bitLen_le256 x hx
  have hb : ∀ w, Fn Try.prog 24 #[W x, .int .u64 ((min n 1000 : Nat) : Int)] w fun v N => v = .bool (decide (((bitN x ((min n 1000 : Nat) : Int) : Nat) : Int) = 1)) ∧ N = [] := fun w => by
    have := bit_any x (min n 1000) hx (by omega) w
    have e : x.testBit (min n 1000) = decide (((bitN x ((min n 1000 : Nat) : Int) : Nat) : Int) = 1) := by
      have h2 := Nat.toNat_testBit x (min n 1000)
      unfold bitN
      by_cases h : min n 1000 ≤ 255
      · rw [if_pos (by omega), show (((min n 1000 : Nat) : Int)).toNat = min n 1000 by omega, ← h2]
        cases x.testBit (min n 1000) <;> rfl
      · rw [if_neg (by omega), Nat.testBit_lt_two_pow (Nat.lt_of_lt_of_le hx (Nat.pow_le_pow_right (by omega) (by omega)))]
        rfl
    rwa [e] at this
  have sm := small_any x hx
  have hd := small_digits x hx
  have hby := byte_any x n hx hn
  have hx0 : x < 18446744073709551616 → dl 18446744073709551616 4 x = dl 18446744073709551616 4 x := fun _ => rfl
  rcases hd with ⟨h0, h1, h2, h3⟩ | ⟨h0, hd⟩
  · rw [if_pos h0, decide_eq_true h0] at sm
    have h1' : ((x / 18446744073709551616 ^ 1 % 18446744073709551616 : Nat) : Int) = 0 := by omega
    have h2' : ((x / 18446744073709551616 ^ 2 % 18446744073709551616 : Nat) : Int) = 0 := by omega
    have h3' : ((x / 18446744073709551616 ^ 3 % 18446744073709551616 : Nat) : Int) = 0 := by omega
    by_cases hn2 : n < 32
    · rw [if_pos hn2] at hby
      have hg := be_get (x := x) hn2
      refine Fn_of (args := [W x, W y, .int .u64 n]) Try.func4 rfl Try.ntmps4 Try.results4 (by simp) ?_
      refine T_seq ?_
      refine T_region ?_
      refine S_boxA rfl rfl rfl fun _ => ?_
      refine S_boxA rfl rfl rfl fun _ => ?_
      refine S_val rfl rfl (Y_assign rfl) ?_
      refine S_nil ?_
      refine X_seq ?_
      refine T_seq ?_
      refine T_region ?_
      refine S_val rfl rfl (Y_loadAI 0 (und rfl) rfl rfl rfl (siz rfl) (dl_length _ _ _)) ?_
      refine S_callV rfl rfl (bod rfl) (fun w _ => rof_any x _) rfl rfl ?_
      refine S_allocA (zer rfl) rfl rfl fun _ => ?_
      refine S_storeAI 2 (siz rfl) rfl rfl rfl rfl (dl_length _ _ _) rfl ?_
      refine S_nil ?_
      refine X_seq ?_
      refine T_seq ?_
      refine T_region ?_
      refine S_val rfl rfl (Y_loadAI 0 (und rfl) rfl rfl rfl (siz rfl) (dl_length _ _ _)) ?_
      refine S_callV rfl rfl (bod rfl) (fun w _ => sm _) rfl rfl ?_
      refine S_val rfl rfl (Y_move rfl) ?_
      refine S_val rfl rfl (Y_extract rfl rfl) ?_
      refine S_val rfl rfl (Y_extract rfl rfl) ?_
      refine S_val rfl rfl (Y_assign rfl) ?_
      refine S_val rfl rfl (Y_assign rfl) ?_
      refine S_nil ?_
      refine X_seq ?_
      refine T_seq ?_
      refine T_region ?_
      refine S_val rfl rfl (Y_move rfl) ?_
      refine S_val rfl rfl (Y_min rfl rfl (nat_cast _) (nat_lit' _)) ?_
      refine S_val rfl rfl (Y_conv (und rfl) (und rfl) rfl (wi64 (by omega) (by omega))) ?_
      refine S_val rfl rfl (Y_assign rfl) ?_
      refine S_nil ?_
      refine X_seq ?_
      refine T_seq ?_
      refine T_region ?_
      refine S_val rfl rfl (Y_assign rfl) ?_
      refine S_nil ?_
      refine X_seq ?_
      refine T_seq ?_
      refine T_seq ?_
      refine T_region ?_
      refine S_val rfl rfl (Y_move rfl) ?_
      refine S_val rfl rfl (Y_lss_t rfl rfl (by omega)) ?_
      refine S_nil ?_
      refine X_seq ?_
      refine T_cond_true rfl ?_
      refine T_seq ?_
      refine T_region ?_
      refine S_val rfl rfl (Y_loadAI 2 (und rfl) rfl rfl rfl (siz rfl) (dl_length _ _ _)) ?_
      refine S_callV rfl rfl (bod rfl) (fun w _ => rbytes_any x _) rfl rfl ?_
      refine S_allocA (zer rfl) rfl rfl fun _ => ?_
      refine S_storeAI 3 (siz rfl) rfl rfl rfl rfl rfl rfl ?_
      refine S_nil ?_
      refine X_seq ?_
      refine T_region ?_
      refine S_val rfl rfl (Y_move rfl) ?_
      refine S_val rfl rfl (Y_ixa (und rfl) (siz rfl) rfl rfl (nat_cast _) (by assumption)) ?_
      refine S_val rfl rfl (Y_loadI 3 (und rfl) rfl rfl rfl (by assumption)) ?_
      refine S_val rfl rfl (Y_assign rfl) ?_
      refine S_nil ?_
      refine X_seq ?_
      refine T_seq ?_
      refine T_seq ?_
      refine T_draw (by kernel_rfl) (by kernel_rfl) rfl ?_
      refine D0_val rfl rfl rfl (Y_move rfl) ?_
      refine D0_val rfl rfl rfl (Y_ixa (und rfl) (siz rfl) rfl rfl (nat_lit' _) (Nat.le_of_ble_eq_true rfl)) ?_
      refine D0_valM rfl rfl rfl (Y_loadI 0 (und rfl) rfl rfl rfl (dl_get (Nat.le_of_ble_eq_true rfl))) ?_
      refine D0_val rfl rfl rfl (Y_eql_t rfl rfl (by assumption)) ?_
      refine D0_val rfl rfl rfl (Y_move rfl) ?_
      refine D0_val rfl rfl rfl (Y_ixa (und rfl) (siz rfl) rfl rfl (nat_lit' _) (Nat.le_of_ble_eq_true rfl)) ?_
      refine D0_valM rfl rfl rfl (Y_loadI 0 (und rfl) rfl rfl rfl (dl_get (Nat.le_of_ble_eq_true rfl))) ?_
      refine D0_val rfl rfl rfl (Y_eql_t rfl rfl (by assumption)) ?_
      refine D0_val rfl rfl rfl (Y_pick_t rfl rfl) ?_
      refine D0_val rfl rfl rfl (Y_move rfl) ?_
      refine D0_val rfl rfl rfl (Y_ixa (und rfl) (siz rfl) rfl rfl (nat_lit' _) (Nat.le_of_ble_eq_true rfl)) ?_
      refine D0_valM rfl rfl rfl (Y_loadI 0 (und rfl) rfl rfl rfl (dl_get (Nat.le_of_ble_eq_true rfl))) ?_
      refine D0_val rfl rfl rfl (Y_eql_t rfl rfl (by assumption)) ?_
      refine D0_val rfl rfl rfl (Y_pick_t rfl rfl) ?_
      refine D0_val rfl rfl rfl (Y_neqB_f (und rfl) rfl rfl) ?_
      refine D0_val rfl rfl rfl (Y_move rfl) ?_
      refine D0_val rfl rfl rfl (Y_move rfl) ?_
      refine D0_val rfl rfl rfl (Y_move rfl) ?_
      refine D0_val rfl rfl rfl (Y_move rfl) ?_
      refine D0_callV rfl rfl (bod rfl) (fun w _ => of_any x h0 _) rfl rfl ?_
      refine D0_valM rfl rfl rfl (Y_loadAI 0 (und rfl) rfl rfl rfl (siz rfl) (dl_length _ _ _)) ?_
      refine D0_val rfl rfl rfl (Y_neqA_f (eqg rfl) (und rfl) (und rfl) (siz rfl) rfl rfl (dl_length _ _ _) rfl) ?_
      refine D0_val rfl rfl rfl (Y_pick_t rfl rfl) ?_
      refine D0_val rfl rfl rfl (Y_pick_f rfl rfl) ?_
      refine D0_val rfl rfl rfl (Y_move rfl) ?_
      refine D0_val rfl rfl rfl (Y_move rfl) ?_
      refine D0_val rfl rfl rfl (Y_not rfl rfl) ?_
      refine D0_val rfl rfl rfl (Y_move rfl) ?_
      refine D0_skip rfl rfl ?_
      refine D0_skip rfl rfl ?_
      refine D0_val rfl rfl rfl (Y_pick_f rfl rfl) ?_
      refine D0_val rfl rfl rfl (Y_pick_f rfl rfl) ?_
      refine D0_nil ?_
      refine X_seq ?_
      refine T_cond_false rfl ?_
      refine T_skip ?_
      refine X_seq ?_
      refine T_seq ?_
      refine T_draw (by kernel_rfl) (by kernel_rfl) rfl ?_
      refine D0_callV rfl rfl (bod rfl) (fun w _ => fixed_any _) rfl rfl ?_
      refine D0_val rfl rfl rfl (Y_move rfl) ?_
      refine D0_valM rfl rfl rfl (Y_loadAI 0 (und rfl) rfl rfl rfl (siz rfl) (dl_length _ _ _)) ?_
      refine D0_valM rfl rfl rfl (Y_loadAI 1 (und rfl) rfl rfl rfl (siz rfl) (dl_length _ _ _)) ?_
      refine D0_callV rfl rfl (bod rfl) (fun w _ => compare_any x y hx hy _) rfl rfl ?_
      refine D0_valM rfl rfl rfl (Y_loadAI 2 (und rfl) rfl rfl rfl (siz rfl) (dl_length _ _ _)) ?_
      refine D0_valM rfl rfl rfl (Y_loadAI 1 (und rfl) rfl rfl rfl (siz rfl) (dl_length _ _ _)) ?_
      refine D0_callV rfl rfl (bod rfl) (fun w _ => rof_any y _) rfl rfl ?_
      skip
      refine D0_callV rfl rfl (bod rfl) (fun w _ => rcompare_any x y hx hy _) rfl rfl ?_
      refine D0_val rfl rfl rfl (Y_eql_t rfl rfl (by omega)) ?_
      refine D0_val rfl rfl rfl (Y_pick_t rfl rfl) ?_
      refine D0_val rfl rfl rfl (Y_move rfl) ?_
      refine D0_valM rfl rfl rfl (Y_loadAI 0 (und rfl) rfl rfl rfl (siz rfl) (dl_length _ _ _)) ?_
      refine D0_val rfl rfl rfl (Y_move rfl) ?_
      refine D0_valM rfl rfl rfl (Y_conv (und rfl) (und rfl) rfl (wu64 (by omega) (by omega))) ?_
      refine D0_callV rfl rfl (bod rfl) (fun w _ => hb _) rfl rfl ?_
      refine D0_valM rfl rfl rfl (Y_loadAI 2 (und rfl) rfl rfl rfl (siz rfl) (dl_length _ _ _)) ?_
      refine D0_val rfl rfl rfl (Y_move rfl) ?_
      refine D0_callV rfl rfl (bod rfl) (fun w _ => rbit_any x _ _) rfl rfl ?_
      refine D0_val rfl rfl rfl (Y_eql rfl rfl) ?_
      refine D0_val rfl rfl rfl (Y_eqlB_t (und rfl) rfl rfl) ?_
      refine D0_val rfl rfl rfl (Y_pick_t rfl rfl) ?_
      refine D0_val rfl rfl rfl (Y_move rfl) ?_
      refine D0_valM rfl rfl rfl (Y_loadAI 0 (und rfl) rfl rfl rfl (siz rfl) (dl_length _ _ _)) ?_
      refine D0_callV rfl rfl (bod rfl) (fun w _ => len_any x hx _) rfl rfl ?_
      refine D0_valM rfl rfl rfl (Y_loadAI 2 (und rfl) rfl rfl rfl (siz rfl) (dl_length _ _ _)) ?_
      refine D0_callV rfl rfl (bod rfl) (fun w _ => rlen_any x hx _) rfl rfl ?_
      refine D0_val rfl rfl rfl (Y_eql_t rfl rfl (by omega)) ?_
      refine D0_val rfl rfl rfl (Y_pick_t rfl rfl) ?_
      refine D0_val rfl rfl rfl (Y_move rfl) ?_
      refine D0_valM rfl rfl rfl (Y_loadAI 0 (und rfl) rfl rfl rfl (siz rfl) (dl_length _ _ _)) ?_
      refine D0_val rfl rfl rfl (Y_move rfl) ?_
      refine D0_callV rfl rfl (bod rfl) (fun w _ => hby _) rfl rfl ?_
      refine D0_val rfl rfl rfl (Y_move rfl) ?_
      refine D0_val rfl rfl rfl (Y_eql_t rfl rfl (by omega)) ?_
      refine D0_val rfl rfl rfl (Y_pick_t rfl rfl) ?_
      refine D0_val rfl rfl rfl (Y_move rfl) ?_
      refine D0_valM rfl rfl rfl (Y_loadAI 0 (und rfl) rfl rfl rfl (siz rfl) (dl_length _ _ _)) ?_
      refine D0_callV rfl rfl (bod rfl) (fun w _ => size_any x hx hl _) rfl rfl ?_
      refine D0_valM rfl rfl rfl (Y_loadAI 2 (und rfl) rfl rfl rfl (siz rfl) (dl_length _ _ _)) ?_
      refine D0_callV rfl rfl (bod rfl) (fun w _ => rlen_any x hx _) rfl rfl ?_
      refine D0_val rfl rfl rfl (Y_addN rfl rfl (nat_cast _) (nat_lit' _) (by omega)) ?_
      refine D0_val rfl rfl rfl (Y_quoN rfl rfl (nat_cast _) (nat_lit' _) (Nat.succ_ne_zero _) (by simp only [IntKind.max, IntKind.signed, IntKind.bits, Bool.false_eq_true, if_false, if_true]; omega)) ?_
      refine D0_val rfl rfl rfl (Y_eql_t rfl rfl (by omega)) ?_
      refine D0_val rfl rfl rfl (Y_pick_t rfl rfl) ?_
      refine D0_val rfl rfl rfl (Y_assign rfl) ?_
      refine D0_nil ?_
      refine X_seq ?_
      refine T_ret ?_
      ((first | refine X_fin_ret ?_ | refine X_fin ?_); exact ⟨[_], [], .cons (.tmp rfl) .nil, Emb.nil _, rfl, rfl⟩)
    · rw [if_neg hn2] at hby
      refine Fn_of (args := [W x, W y, .int .u64 n]) Try.func4 rfl Try.ntmps4 Try.results4 (by simp) ?_
      refine T_seq ?_
      refine T_region ?_
      refine S_boxA rfl rfl rfl fun _ => ?_
      refine S_boxA rfl rfl rfl fun _ => ?_
      refine S_val rfl rfl (Y_assign rfl) ?_
      refine S_nil ?_
      refine X_seq ?_
      refine T_seq ?_
      refine T_region ?_
      refine S_val rfl rfl (Y_loadAI 0 (und rfl) rfl rfl rfl (siz rfl) (dl_length _ _ _)) ?_
      refine S_callV rfl rfl (bod rfl) (fun w _ => rof_any x _) rfl rfl ?_
      refine S_allocA (zer rfl) rfl rfl fun _ => ?_
      refine S_storeAI 2 (siz rfl) rfl rfl rfl rfl (dl_length _ _ _) rfl ?_
      refine S_nil ?_
      refine X_seq ?_
      refine T_seq ?_
      refine T_region ?_
      refine S_val rfl rfl (Y_loadAI 0 (und rfl) rfl rfl rfl (siz rfl) (dl_length _ _ _)) ?_
      refine S_callV rfl rfl (bod rfl) (fun w _ => sm _) rfl rfl ?_
      refine S_val rfl rfl (Y_move rfl) ?_
      refine S_val rfl rfl (Y_extract rfl rfl) ?_
      refine S_val rfl rfl (Y_extract rfl rfl) ?_
      refine S_val rfl rfl (Y_assign rfl) ?_
      refine S_val rfl rfl (Y_assign rfl) ?_
      refine S_nil ?_
      refine X_seq ?_
      refine T_seq ?_
      refine T_region ?_
      refine S_val rfl rfl (Y_move rfl) ?_
      refine S_val rfl rfl (Y_min rfl rfl (nat_cast _) (nat_lit' _)) ?_
      refine S_val rfl rfl (Y_conv (und rfl) (und rfl) rfl (wi64 (by omega) (by omega))) ?_
      refine S_val rfl rfl (Y_assign rfl) ?_
      refine S_nil ?_
      refine X_seq ?_
      refine T_seq ?_
      refine T_region ?_
      refine S_val rfl rfl (Y_assign rfl) ?_
      refine S_nil ?_
      refine X_seq ?_
      refine T_seq ?_
      refine T_seq ?_
      refine T_region ?_
      refine S_val rfl rfl (Y_move rfl) ?_
      refine S_val rfl rfl (Y_lss_f rfl rfl (by omega)) ?_
      refine S_nil ?_
      refine X_seq ?_
      refine T_cond_false rfl ?_
      refine T_skip ?_
      refine X_seq ?_
      refine T_seq ?_
      refine T_seq ?_
      refine T_draw (by kernel_rfl) (by kernel_rfl) rfl ?_
      refine D0_val rfl rfl rfl (Y_move rfl) ?_
      refine D0_val rfl rfl rfl (Y_ixa (und rfl) (siz rfl) rfl rfl (nat_lit' _) (Nat.le_of_ble_eq_true rfl)) ?_
      refine D0_valM rfl rfl rfl (Y_loadI 0 (und rfl) rfl rfl rfl (dl_get (Nat.le_of_ble_eq_true rfl))) ?_
      refine D0_val rfl rfl rfl (Y_eql_t rfl rfl (by assumption)) ?_
      refine D0_val rfl rfl rfl (Y_move rfl) ?_
      refine D0_val rfl rfl rfl (Y_ixa (und rfl) (siz rfl) rfl rfl (nat_lit' _) (Nat.le_of_ble_eq_true rfl)) ?_
      refine D0_valM rfl rfl rfl (Y_loadI 0 (und rfl) rfl rfl rfl (dl_get (Nat.le_of_ble_eq_true rfl))) ?_
      refine D0_val rfl rfl rfl (Y_eql_t rfl rfl (by assumption)) ?_
      refine D0_val rfl rfl rfl (Y_pick_t rfl rfl) ?_
      refine D0_val rfl rfl rfl (Y_move rfl) ?_
      refine D0_val rfl rfl rfl (Y_ixa (und rfl) (siz rfl) rfl rfl (nat_lit' _) (Nat.le_of_ble_eq_true rfl)) ?_
      refine D0_valM rfl rfl rfl (Y_loadI 0 (und rfl) rfl rfl rfl (dl_get (Nat.le_of_ble_eq_true rfl))) ?_
      refine D0_val rfl rfl rfl (Y_eql_t rfl rfl (by assumption)) ?_
      refine D0_val rfl rfl rfl (Y_pick_t rfl rfl) ?_
      refine D0_val rfl rfl rfl (Y_neqB_f (und rfl) rfl rfl) ?_
      refine D0_val rfl rfl rfl (Y_move rfl) ?_
      refine D0_val rfl rfl rfl (Y_move rfl) ?_
      refine D0_val rfl rfl rfl (Y_move rfl) ?_
      refine D0_val rfl rfl rfl (Y_move rfl) ?_
      refine D0_callV rfl rfl (bod rfl) (fun w _ => of_any x h0 _) rfl rfl ?_
      refine D0_valM rfl rfl rfl (Y_loadAI 0 (und rfl) rfl rfl rfl (siz rfl) (dl_length _ _ _)) ?_
      refine D0_val rfl rfl rfl (Y_neqA_f (eqg rfl) (und rfl) (und rfl) (siz rfl) rfl rfl (dl_length _ _ _) rfl) ?_
      refine D0_val rfl rfl rfl (Y_pick_t rfl rfl) ?_
      refine D0_val rfl rfl rfl (Y_pick_f rfl rfl) ?_
      refine D0_val rfl rfl rfl (Y_move rfl) ?_
      refine D0_val rfl rfl rfl (Y_move rfl) ?_
      refine D0_val rfl rfl rfl (Y_not rfl rfl) ?_
      refine D0_val rfl rfl rfl (Y_move rfl) ?_
      refine D0_skip rfl rfl ?_
      refine D0_skip rfl rfl ?_
      refine D0_val rfl rfl rfl (Y_pick_f rfl rfl) ?_
      refine D0_val rfl rfl rfl (Y_pick_f rfl rfl) ?_
      refine D0_nil ?_
      refine X_seq ?_
      refine T_cond_false rfl ?_
      refine T_skip ?_
      refine X_seq ?_
      refine T_seq ?_
      refine T_draw (by kernel_rfl) (by kernel_rfl) rfl ?_
      refine D0_callV rfl rfl (bod rfl) (fun w _ => fixed_any _) rfl rfl ?_
      refine D0_val rfl rfl rfl (Y_move rfl) ?_
      refine D0_valM rfl rfl rfl (Y_loadAI 0 (und rfl) rfl rfl rfl (siz rfl) (dl_length _ _ _)) ?_
      refine D0_valM rfl rfl rfl (Y_loadAI 1 (und rfl) rfl rfl rfl (siz rfl) (dl_length _ _ _)) ?_
      refine D0_callV rfl rfl (bod rfl) (fun w _ => compare_any x y hx hy _) rfl rfl ?_
      refine D0_valM rfl rfl rfl (Y_loadAI 2 (und rfl) rfl rfl rfl (siz rfl) (dl_length _ _ _)) ?_
      refine D0_valM rfl rfl rfl (Y_loadAI 1 (und rfl) rfl rfl rfl (siz rfl) (dl_length _ _ _)) ?_
      refine D0_callV rfl rfl (bod rfl) (fun w _ => rof_any y _) rfl rfl ?_
      skip
      refine D0_callV rfl rfl (bod rfl) (fun w _ => rcompare_any x y hx hy _) rfl rfl ?_
      refine D0_val rfl rfl rfl (Y_eql_t rfl rfl (by omega)) ?_
      refine D0_val rfl rfl rfl (Y_pick_t rfl rfl) ?_
      refine D0_val rfl rfl rfl (Y_move rfl) ?_
      refine D0_valM rfl rfl rfl (Y_loadAI 0 (und rfl) rfl rfl rfl (siz rfl) (dl_length _ _ _)) ?_
      refine D0_val rfl rfl rfl (Y_move rfl) ?_
      refine D0_valM rfl rfl rfl (Y_conv (und rfl) (und rfl) rfl (wu64 (by omega) (by omega))) ?_
      refine D0_callV rfl rfl (bod rfl) (fun w _ => hb _) rfl rfl ?_
      refine D0_valM rfl rfl rfl (Y_loadAI 2 (und rfl) rfl rfl rfl (siz rfl) (dl_length _ _ _)) ?_
      refine D0_val rfl rfl rfl (Y_move rfl) ?_
      refine D0_callV rfl rfl (bod rfl) (fun w _ => rbit_any x _ _) rfl rfl ?_
      refine D0_val rfl rfl rfl (Y_eql rfl rfl) ?_
      refine D0_val rfl rfl rfl (Y_eqlB_t (und rfl) rfl rfl) ?_
      refine D0_val rfl rfl rfl (Y_pick_t rfl rfl) ?_
      refine D0_val rfl rfl rfl (Y_move rfl) ?_
      refine D0_valM rfl rfl rfl (Y_loadAI 0 (und rfl) rfl rfl rfl (siz rfl) (dl_length _ _ _)) ?_
      refine D0_callV rfl rfl (bod rfl) (fun w _ => len_any x hx _) rfl rfl ?_
      refine D0_valM rfl rfl rfl (Y_loadAI 2 (und rfl) rfl rfl rfl (siz rfl) (dl_length _ _ _)) ?_
      refine D0_callV rfl rfl (bod rfl) (fun w _ => rlen_any x hx _) rfl rfl ?_
      refine D0_val rfl rfl rfl (Y_eql_t rfl rfl (by omega)) ?_
      refine D0_val rfl rfl rfl (Y_pick_t rfl rfl) ?_
      refine D0_val rfl rfl rfl (Y_move rfl) ?_
      refine D0_valM rfl rfl rfl (Y_loadAI 0 (und rfl) rfl rfl rfl (siz rfl) (dl_length _ _ _)) ?_
      refine D0_val rfl rfl rfl (Y_move rfl) ?_
      refine D0_callV rfl rfl (bod rfl) (fun w _ => hby _) rfl rfl ?_
      refine D0_val rfl rfl rfl (Y_move rfl) ?_
      refine D0_val rfl rfl rfl (Y_eql_t rfl rfl (by decide)) ?_
      refine D0_val rfl rfl rfl (Y_pick_t rfl rfl) ?_
      refine D0_val rfl rfl rfl (Y_move rfl) ?_
      refine D0_valM rfl rfl rfl (Y_loadAI 0 (und rfl) rfl rfl rfl (siz rfl) (dl_length _ _ _)) ?_
      refine D0_callV rfl rfl (bod rfl) (fun w _ => size_any x hx hl _) rfl rfl ?_
      refine D0_valM rfl rfl rfl (Y_loadAI 2 (und rfl) rfl rfl rfl (siz rfl) (dl_length _ _ _)) ?_
      refine D0_callV rfl rfl (bod rfl) (fun w _ => rlen_any x hx _) rfl rfl ?_
      refine D0_val rfl rfl rfl (Y_addN rfl rfl (nat_cast _) (nat_lit' _) (by omega)) ?_
      refine D0_val rfl rfl rfl (Y_quoN rfl rfl (nat_cast _) (nat_lit' _) (Nat.succ_ne_zero _) (by simp only [IntKind.max, IntKind.signed, IntKind.bits, Bool.false_eq_true, if_false, if_true]; omega)) ?_
      refine D0_val rfl rfl rfl (Y_eql_t rfl rfl (by omega)) ?_
      refine D0_val rfl rfl rfl (Y_pick_t rfl rfl) ?_
      refine D0_val rfl rfl rfl (Y_assign rfl) ?_
      refine D0_nil ?_
      refine X_seq ?_
      refine T_ret ?_
      ((first | refine X_fin_ret ?_ | refine X_fin ?_); exact ⟨[_], [], .cons (.tmp rfl) .nil, Emb.nil _, rfl, rfl⟩)
  · rw [if_neg h0, decide_eq_false h0] at sm
    have hd' : (¬ ((x / 18446744073709551616 ^ 1 % 18446744073709551616 : Nat) : Int) = 0) ∨ (((x / 18446744073709551616 ^ 1 % 18446744073709551616 : Nat) : Int) = 0 ∧ ¬ ((x / 18446744073709551616 ^ 2 % 18446744073709551616 : Nat) : Int) = 0) ∨
        (((x / 18446744073709551616 ^ 1 % 18446744073709551616 : Nat) : Int) = 0 ∧ ((x / 18446744073709551616 ^ 2 % 18446744073709551616 : Nat) : Int) = 0 ∧ ¬ ((x / 18446744073709551616 ^ 3 % 18446744073709551616 : Nat) : Int) = 0) := by omega
    by_cases hn2 : n < 32
    · rw [if_pos hn2] at hby
      have hg := be_get (x := x) hn2
      rcases hd' with h1 | ⟨h1, h2⟩ | ⟨h1, h2, h3⟩
      all_goals
        refine Fn_of (args := [W x, W y, .int .u64 n]) Try.func4 rfl Try.ntmps4 Try.results4 (by simp) ?_
        refine T_seq ?_
        refine T_region ?_
        refine S_boxA rfl rfl rfl fun _ => ?_
        refine S_boxA rfl rfl rfl fun _ => ?_
        refine S_val rfl rfl (Y_assign rfl) ?_
        refine S_nil ?_
        refine X_seq ?_
        refine T_seq ?_
        refine T_region ?_
        refine S_val rfl rfl (Y_loadAI 0 (und rfl) rfl rfl rfl (siz rfl) (dl_length _ _ _)) ?_
        refine S_callV rfl rfl (bod rfl) (fun w _ => rof_any x _) rfl rfl ?_
        refine S_allocA (zer rfl) rfl rfl fun _ => ?_
        refine S_storeAI 2 (siz rfl) rfl rfl rfl rfl (dl_length _ _ _) rfl ?_
        refine S_nil ?_
        refine X_seq ?_
        refine T_seq ?_
        refine T_region ?_
        refine S_val rfl rfl (Y_loadAI 0 (und rfl) rfl rfl rfl (siz rfl) (dl_length _ _ _)) ?_
        refine S_callV rfl rfl (bod rfl) (fun w _ => sm _) rfl rfl ?_
        refine S_val rfl rfl (Y_move rfl) ?_
        refine S_val rfl rfl (Y_extract rfl rfl) ?_
        refine S_val rfl rfl (Y_extract rfl rfl) ?_
        refine S_val rfl rfl (Y_assign rfl) ?_
        refine S_val rfl rfl (Y_assign rfl) ?_
        refine S_nil ?_
        refine X_seq ?_
        refine T_seq ?_
        refine T_region ?_
        refine S_val rfl rfl (Y_move rfl) ?_
        refine S_val rfl rfl (Y_min rfl rfl (nat_cast _) (nat_lit' _)) ?_
        refine S_val rfl rfl (Y_conv (und rfl) (und rfl) rfl (wi64 (by omega) (by omega))) ?_
        refine S_val rfl rfl (Y_assign rfl) ?_
        refine S_nil ?_
        refine X_seq ?_
        refine T_seq ?_
        refine T_region ?_
        refine S_val rfl rfl (Y_assign rfl) ?_
        refine S_nil ?_
        refine X_seq ?_
        refine T_seq ?_
        refine T_seq ?_
        refine T_region ?_
        refine S_val rfl rfl (Y_move rfl) ?_
        refine S_val rfl rfl (Y_lss_t rfl rfl (by omega)) ?_
        refine S_nil ?_
        refine X_seq ?_
        refine T_cond_true rfl ?_
        refine T_seq ?_
        refine T_region ?_
        refine S_val rfl rfl (Y_loadAI 2 (und rfl) rfl rfl rfl (siz rfl) (dl_length _ _ _)) ?_
        refine S_callV rfl rfl (bod rfl) (fun w _ => rbytes_any x _) rfl rfl ?_
        first | (refine S_allocA (zer rfl) rfl rfl fun _ => ?_; refine S_storeAI 3 (siz rfl) rfl rfl rfl rfl rfl rfl ?_; refine S_nil ?_; refine X_seq ?_; refine T_region ?_; refine S_val rfl rfl (Y_move rfl) ?_; refine S_val rfl rfl (Y_ixa (und rfl) (siz rfl) rfl rfl (by with_reducible exact nat_cast _) (by assumption)) ?_; refine S_val rfl rfl (Y_loadI 3 (und rfl) rfl rfl rfl (by assumption)) ?_; refine S_val rfl rfl (Y_assign rfl) ?_; refine S_nil ?_; refine X_seq ?_; refine T_seq ?_; refine T_seq ?_; refine T_draw (by kernel_rfl) (by kernel_rfl) rfl ?_; refine D0_val rfl rfl rfl (Y_move rfl) ?_; refine D0_val rfl rfl rfl (Y_ixa (und rfl) (siz rfl) rfl rfl (nat_lit' _) (Nat.le_of_ble_eq_true rfl)) ?_; refine D0_valM rfl rfl rfl (Y_loadI 0 (und rfl) rfl rfl rfl (dl_get (Nat.le_of_ble_eq_true rfl))) ?_; refine D0_val rfl rfl rfl (Y_eql_t rfl rfl (by assumption)) ?_; refine D0_val rfl rfl rfl (Y_move rfl) ?_; refine D0_val rfl rfl rfl (Y_ixa (und rfl) (siz rfl) rfl rfl (nat_lit' _) (Nat.le_of_ble_eq_true rfl)) ?_; refine D0_valM rfl rfl rfl (Y_loadI 0 (und rfl) rfl rfl rfl (dl_get (Nat.le_of_ble_eq_true rfl))) ?_; refine D0_val rfl rfl rfl (Y_eql_t rfl rfl (by assumption)) ?_; refine D0_val rfl rfl rfl (Y_pick_t rfl rfl) ?_; refine D0_val rfl rfl rfl (Y_move rfl) ?_; refine D0_val rfl rfl rfl (Y_ixa (und rfl) (siz rfl) rfl rfl (nat_lit' _) (Nat.le_of_ble_eq_true rfl)) ?_; refine D0_valM rfl rfl rfl (Y_loadI 0 (und rfl) rfl rfl rfl (dl_get (Nat.le_of_ble_eq_true rfl))) ?_; refine D0_val rfl rfl rfl (Y_eql_f rfl rfl (by assumption)) ?_; refine D0_val rfl rfl rfl (Y_pick_t rfl rfl) ?_; refine D0_val rfl rfl rfl (Y_neqB_f (und rfl) rfl rfl) ?_; refine D0_val rfl rfl rfl (Y_move rfl) ?_; refine D0_val rfl rfl rfl (Y_move rfl) ?_; refine D0_val rfl rfl rfl (Y_move rfl) ?_; refine D0_skip rfl rfl ?_; refine D0_skip rfl rfl ?_; refine D0_skip rfl rfl ?_; refine D0_skip rfl rfl ?_; refine D0_val rfl rfl rfl (Y_pick_f rfl rfl) ?_; refine D0_val rfl rfl rfl (Y_pick_f rfl rfl) ?_; refine D0_val rfl rfl rfl (Y_move rfl) ?_; refine D0_val rfl rfl rfl (Y_move rfl) ?_; refine D0_val rfl rfl rfl (Y_not rfl rfl) ?_; refine D0_val rfl rfl rfl (Y_move rfl) ?_; refine D0_val rfl rfl rfl (Y_move rfl) ?_; refine D0_val rfl rfl rfl (Y_neq_f rfl rfl (by decide)) ?_; refine D0_val rfl rfl rfl (Y_pick_t rfl rfl) ?_; refine D0_val rfl rfl rfl (Y_pick_f rfl rfl) ?_; refine D0_nil ?_; refine X_seq ?_; refine T_cond_false rfl ?_; refine T_skip ?_; refine X_seq ?_; refine T_seq ?_; refine T_draw (by kernel_rfl) (by kernel_rfl) rfl ?_) | (refine S_allocA (zer rfl) rfl rfl fun _ => ?_; refine S_storeAI 3 (siz rfl) rfl rfl rfl rfl rfl rfl ?_; refine S_nil ?_; refine X_seq ?_; refine T_region ?_; refine S_val rfl rfl (Y_move rfl) ?_; refine S_val rfl rfl (Y_ixa (und rfl) (siz rfl) rfl rfl (by with_reducible exact nat_cast _) (by assumption)) ?_; refine S_val rfl rfl (Y_loadI 3 (und rfl) rfl rfl rfl (by assumption)) ?_; refine S_val rfl rfl (Y_assign rfl) ?_; refine S_nil ?_; refine X_seq ?_; refine T_seq ?_; refine T_seq ?_; refine T_draw (by kernel_rfl) (by kernel_rfl) rfl ?_; refine D0_val rfl rfl rfl (Y_move rfl) ?_; refine D0_val rfl rfl rfl (Y_ixa (und rfl) (siz rfl) rfl rfl (nat_lit' _) (Nat.le_of_ble_eq_true rfl)) ?_; refine D0_valM rfl rfl rfl (Y_loadI 0 (und rfl) rfl rfl rfl (dl_get (Nat.le_of_ble_eq_true rfl))) ?_; refine D0_val rfl rfl rfl (Y_eql_t rfl rfl (by assumption)) ?_; refine D0_val rfl rfl rfl (Y_move rfl) ?_; refine D0_val rfl rfl rfl (Y_ixa (und rfl) (siz rfl) rfl rfl (nat_lit' _) (Nat.le_of_ble_eq_true rfl)) ?_; refine D0_valM rfl rfl rfl (Y_loadI 0 (und rfl) rfl rfl rfl (dl_get (Nat.le_of_ble_eq_true rfl))) ?_; refine D0_val rfl rfl rfl (Y_eql_f rfl rfl (by assumption)) ?_; refine D0_val rfl rfl rfl (Y_pick_t rfl rfl) ?_; refine D0_val rfl rfl rfl (Y_move rfl) ?_; refine D0_skip rfl rfl ?_; refine D0_skip rfl rfl ?_; refine D0_skip rfl rfl ?_; refine D0_val rfl rfl rfl (Y_pick_f rfl rfl) ?_; refine D0_val rfl rfl rfl (Y_neqB_f (und rfl) rfl rfl) ?_; refine D0_val rfl rfl rfl (Y_move rfl) ?_; refine D0_val rfl rfl rfl (Y_move rfl) ?_; refine D0_val rfl rfl rfl (Y_move rfl) ?_; refine D0_skip rfl rfl ?_; refine D0_skip rfl rfl ?_; refine D0_skip rfl rfl ?_; refine D0_skip rfl rfl ?_; refine D0_val rfl rfl rfl (Y_pick_f rfl rfl) ?_; refine D0_val rfl rfl rfl (Y_pick_f rfl rfl) ?_; refine D0_val rfl rfl rfl (Y_move rfl) ?_; refine D0_val rfl rfl rfl (Y_move rfl) ?_; refine D0_val rfl rfl rfl (Y_not rfl rfl) ?_; refine D0_val rfl rfl rfl (Y_move rfl) ?_; refine D0_val rfl rfl rfl (Y_move rfl) ?_; refine D0_val rfl rfl rfl (Y_neq_f rfl rfl (by decide)) ?_; refine D0_val rfl rfl rfl (Y_pick_t rfl rfl) ?_; refine D0_val rfl rfl rfl (Y_pick_f rfl rfl) ?_; refine D0_nil ?_; refine X_seq ?_; refine T_cond_false rfl ?_; refine T_skip ?_; refine X_seq ?_; refine T_seq ?_; refine T_draw (by kernel_rfl) (by kernel_rfl) rfl ?_) | (refine S_allocA (zer rfl) rfl rfl fun _ => ?_; refine S_storeAI 3 (siz rfl) rfl rfl rfl rfl rfl rfl ?_; refine S_nil ?_; refine X_seq ?_; refine T_region ?_; refine S_val rfl rfl (Y_move rfl) ?_; refine S_val rfl rfl (Y_ixa (und rfl) (siz rfl) rfl rfl (by with_reducible exact nat_cast _) (by assumption)) ?_; refine S_val rfl rfl (Y_loadI 3 (und rfl) rfl rfl rfl (by assumption)) ?_; refine S_val rfl rfl (Y_assign rfl) ?_; refine S_nil ?_; refine X_seq ?_; refine T_seq ?_; refine T_seq ?_; refine T_draw (by kernel_rfl) (by kernel_rfl) rfl ?_; refine D0_val rfl rfl rfl (Y_move rfl) ?_; refine D0_val rfl rfl rfl (Y_ixa (und rfl) (siz rfl) rfl rfl (nat_lit' _) (Nat.le_of_ble_eq_true rfl)) ?_; refine D0_valM rfl rfl rfl (Y_loadI 0 (und rfl) rfl rfl rfl (dl_get (Nat.le_of_ble_eq_true rfl))) ?_; refine D0_val rfl rfl rfl (Y_eql_f rfl rfl (by assumption)) ?_; refine D0_val rfl rfl rfl (Y_move rfl) ?_; refine D0_skip rfl rfl ?_; refine D0_skip rfl rfl ?_; refine D0_skip rfl rfl ?_; refine D0_val rfl rfl rfl (Y_pick_f rfl rfl) ?_; refine D0_val rfl rfl rfl (Y_move rfl) ?_; refine D0_skip rfl rfl ?_; refine D0_skip rfl rfl ?_; refine D0_skip rfl rfl ?_; refine D0_val rfl rfl rfl (Y_pick_f rfl rfl) ?_; refine D0_val rfl rfl rfl (Y_neqB_f (und rfl) rfl rfl) ?_; refine D0_val rfl rfl rfl (Y_move rfl) ?_; refine D0_val rfl rfl rfl (Y_move rfl) ?_; refine D0_val rfl rfl rfl (Y_move rfl) ?_; refine D0_skip rfl rfl ?_; refine D0_skip rfl rfl ?_; refine D0_skip rfl rfl ?_; refine D0_skip rfl rfl ?_; refine D0_val rfl rfl rfl (Y_pick_f rfl rfl) ?_; refine D0_val rfl rfl rfl (Y_pick_f rfl rfl) ?_; refine D0_val rfl rfl rfl (Y_move rfl) ?_; refine D0_val rfl rfl rfl (Y_move rfl) ?_; refine D0_val rfl rfl rfl (Y_not rfl rfl) ?_; refine D0_val rfl rfl rfl (Y_move rfl) ?_; refine D0_val rfl rfl rfl (Y_move rfl) ?_; refine D0_val rfl rfl rfl (Y_neq_f rfl rfl (by decide)) ?_; refine D0_val rfl rfl rfl (Y_pick_t rfl rfl) ?_; refine D0_val rfl rfl rfl (Y_pick_f rfl rfl) ?_; refine D0_nil ?_; refine X_seq ?_; refine T_cond_false rfl ?_; refine T_skip ?_; refine X_seq ?_; refine T_seq ?_; refine T_draw (by kernel_rfl) (by kernel_rfl) rfl ?_)
        refine D0_callV rfl rfl (bod rfl) (fun w _ => fixed_any _) rfl rfl ?_
        refine D0_val rfl rfl rfl (Y_move rfl) ?_
        refine D0_valM rfl rfl rfl (Y_loadAI 0 (und rfl) rfl rfl rfl (siz rfl) (dl_length _ _ _)) ?_
        refine D0_valM rfl rfl rfl (Y_loadAI 1 (und rfl) rfl rfl rfl (siz rfl) (dl_length _ _ _)) ?_
        refine D0_callV rfl rfl (bod rfl) (fun w _ => compare_any x y hx hy _) rfl rfl ?_
        refine D0_valM rfl rfl rfl (Y_loadAI 2 (und rfl) rfl rfl rfl (siz rfl) (dl_length _ _ _)) ?_
        refine D0_valM rfl rfl rfl (Y_loadAI 1 (und rfl) rfl rfl rfl (siz rfl) (dl_length _ _ _)) ?_
        refine D0_callV rfl rfl (bod rfl) (fun w _ => rof_any y _) rfl rfl ?_
        skip
        refine D0_callV rfl rfl (bod rfl) (fun w _ => rcompare_any x y hx hy _) rfl rfl ?_
        refine D0_val rfl rfl rfl (Y_eql_t rfl rfl (by omega)) ?_
        refine D0_val rfl rfl rfl (Y_pick_t rfl rfl) ?_
        refine D0_val rfl rfl rfl (Y_move rfl) ?_
        refine D0_valM rfl rfl rfl (Y_loadAI 0 (und rfl) rfl rfl rfl (siz rfl) (dl_length _ _ _)) ?_
        refine D0_val rfl rfl rfl (Y_move rfl) ?_
        refine D0_valM rfl rfl rfl (Y_conv (und rfl) (und rfl) rfl (wu64 (by omega) (by omega))) ?_
        refine D0_callV rfl rfl (bod rfl) (fun w _ => hb _) rfl rfl ?_
        refine D0_valM rfl rfl rfl (Y_loadAI 2 (und rfl) rfl rfl rfl (siz rfl) (dl_length _ _ _)) ?_
        refine D0_val rfl rfl rfl (Y_move rfl) ?_
        refine D0_callV rfl rfl (bod rfl) (fun w _ => rbit_any x _ _) rfl rfl ?_
        refine D0_val rfl rfl rfl (Y_eql rfl rfl) ?_
        refine D0_val rfl rfl rfl (Y_eqlB_t (und rfl) rfl rfl) ?_
        refine D0_val rfl rfl rfl (Y_pick_t rfl rfl) ?_
        refine D0_val rfl rfl rfl (Y_move rfl) ?_
        refine D0_valM rfl rfl rfl (Y_loadAI 0 (und rfl) rfl rfl rfl (siz rfl) (dl_length _ _ _)) ?_
        refine D0_callV rfl rfl (bod rfl) (fun w _ => len_any x hx _) rfl rfl ?_
        refine D0_valM rfl rfl rfl (Y_loadAI 2 (und rfl) rfl rfl rfl (siz rfl) (dl_length _ _ _)) ?_
        refine D0_callV rfl rfl (bod rfl) (fun w _ => rlen_any x hx _) rfl rfl ?_
        refine D0_val rfl rfl rfl (Y_eql_t rfl rfl (by omega)) ?_
        refine D0_val rfl rfl rfl (Y_pick_t rfl rfl) ?_
        refine D0_val rfl rfl rfl (Y_move rfl) ?_
        refine D0_valM rfl rfl rfl (Y_loadAI 0 (und rfl) rfl rfl rfl (siz rfl) (dl_length _ _ _)) ?_
        refine D0_val rfl rfl rfl (Y_move rfl) ?_
        refine D0_callV rfl rfl (bod rfl) (fun w _ => hby _) rfl rfl ?_
        refine D0_val rfl rfl rfl (Y_move rfl) ?_
        refine D0_val rfl rfl rfl (Y_eql_t rfl rfl (by omega)) ?_
        refine D0_val rfl rfl rfl (Y_pick_t rfl rfl) ?_
        refine D0_val rfl rfl rfl (Y_move rfl) ?_
        refine D0_valM rfl rfl rfl (Y_loadAI 0 (und rfl) rfl rfl rfl (siz rfl) (dl_length _ _ _)) ?_
        refine D0_callV rfl rfl (bod rfl) (fun w _ => size_any x hx hl _) rfl rfl ?_
        refine D0_valM rfl rfl rfl (Y_loadAI 2 (und rfl) rfl rfl rfl (siz rfl) (dl_length _ _ _)) ?_
        refine D0_callV rfl rfl (bod rfl) (fun w _ => rlen_any x hx _) rfl rfl ?_
        refine D0_val rfl rfl rfl (Y_addN rfl rfl (nat_cast _) (nat_lit' _) (by omega)) ?_
        refine D0_val rfl rfl rfl (Y_quoN rfl rfl (nat_cast _) (nat_lit' _) (Nat.succ_ne_zero _) (by simp only [IntKind.max, IntKind.signed, IntKind.bits, Bool.false_eq_true, if_false, if_true]; omega)) ?_
        refine D0_val rfl rfl rfl (Y_eql_t rfl rfl (by omega)) ?_
        refine D0_val rfl rfl rfl (Y_pick_t rfl rfl) ?_
        refine D0_val rfl rfl rfl (Y_assign rfl) ?_
        refine D0_nil ?_
        refine X_seq ?_
        refine T_ret ?_
        ((first | refine X_fin_ret ?_ | refine X_fin ?_); exact ⟨[_], [], .cons (.tmp rfl) .nil, Emb.nil _, rfl, rfl⟩)
    · rw [if_neg hn2] at hby
      rcases hd' with h1 | ⟨h1, h2⟩ | ⟨h1, h2, h3⟩
      all_goals
        refine Fn_of (args := [W x, W y, .int .u64 n]) Try.func4 rfl Try.ntmps4 Try.results4 (by simp) ?_
        refine T_seq ?_
        refine T_region ?_
        refine S_boxA rfl rfl rfl fun _ => ?_
        refine S_boxA rfl rfl rfl fun _ => ?_
        refine S_val rfl rfl (Y_assign rfl) ?_
        refine S_nil ?_
        refine X_seq ?_
        refine T_seq ?_
        refine T_region ?_
        refine S_val rfl rfl (Y_loadAI 0 (und rfl) rfl rfl rfl (siz rfl) (dl_length _ _ _)) ?_
        refine S_callV rfl rfl (bod rfl) (fun w _ => rof_any x _) rfl rfl ?_
        refine S_allocA (zer rfl) rfl rfl fun _ => ?_
        refine S_storeAI 2 (siz rfl) rfl rfl rfl rfl (dl_length _ _ _) rfl ?_
        refine S_nil ?_
        refine X_seq ?_
        refine T_seq ?_
        refine T_region ?_
        refine S_val rfl rfl (Y_loadAI 0 (und rfl) rfl rfl rfl (siz rfl) (dl_length _ _ _)) ?_
        refine S_callV rfl rfl (bod rfl) (fun w _ => sm _) rfl rfl ?_
        first | (refine S_val rfl rfl (Y_move rfl) ?_; refine S_val rfl rfl (Y_extract rfl rfl) ?_; refine S_val rfl rfl (Y_extract rfl rfl) ?_; refine S_val rfl rfl (Y_assign rfl) ?_; refine S_val rfl rfl (Y_assign rfl) ?_; refine S_nil ?_; refine X_seq ?_; refine T_seq ?_; refine T_region ?_; refine S_val rfl rfl (Y_move rfl) ?_; refine S_val rfl rfl (Y_min rfl rfl (by with_reducible exact nat_cast _) (nat_lit' _)) ?_; refine S_val rfl rfl (Y_conv (und rfl) (und rfl) rfl (wi64 (by omega) (by omega))) ?_; refine S_val rfl rfl (Y_assign rfl) ?_; refine S_nil ?_; refine X_seq ?_; refine T_seq ?_; refine T_region ?_; refine S_val rfl rfl (Y_assign rfl) ?_; refine S_nil ?_; refine X_seq ?_; refine T_seq ?_; refine T_seq ?_; refine T_region ?_; refine S_val rfl rfl (Y_move rfl) ?_; refine S_val rfl rfl (Y_lss_f rfl rfl (by omega)) ?_; refine S_nil ?_; refine X_seq ?_; refine T_cond_false rfl ?_; refine T_skip ?_; refine X_seq ?_; refine T_seq ?_; refine T_seq ?_; refine T_draw (by kernel_rfl) (by kernel_rfl) rfl ?_; refine D0_val rfl rfl rfl (Y_move rfl) ?_; refine D0_val rfl rfl rfl (Y_ixa (und rfl) (siz rfl) rfl rfl (nat_lit' _) (Nat.le_of_ble_eq_true rfl)) ?_; refine D0_valM rfl rfl rfl (Y_loadI 0 (und rfl) rfl rfl rfl (dl_get (Nat.le_of_ble_eq_true rfl))) ?_; refine D0_val rfl rfl rfl (Y_eql_t rfl rfl (by assumption)) ?_; refine D0_val rfl rfl rfl (Y_move rfl) ?_; refine D0_val rfl rfl rfl (Y_ixa (und rfl) (siz rfl) rfl rfl (nat_lit' _) (Nat.le_of_ble_eq_true rfl)) ?_; refine D0_valM rfl rfl rfl (Y_loadI 0 (und rfl) rfl rfl rfl (dl_get (Nat.le_of_ble_eq_true rfl))) ?_; refine D0_val rfl rfl rfl (Y_eql_t rfl rfl (by assumption)) ?_; refine D0_val rfl rfl rfl (Y_pick_t rfl rfl) ?_; refine D0_val rfl rfl rfl (Y_move rfl) ?_; refine D0_val rfl rfl rfl (Y_ixa (und rfl) (siz rfl) rfl rfl (nat_lit' _) (Nat.le_of_ble_eq_true rfl)) ?_; refine D0_valM rfl rfl rfl (Y_loadI 0 (und rfl) rfl rfl rfl (dl_get (Nat.le_of_ble_eq_true rfl))) ?_; refine D0_val rfl rfl rfl (Y_eql_f rfl rfl (by assumption)) ?_; refine D0_val rfl rfl rfl (Y_pick_t rfl rfl) ?_; refine D0_val rfl rfl rfl (Y_neqB_f (und rfl) rfl rfl) ?_; refine D0_val rfl rfl rfl (Y_move rfl) ?_; refine D0_val rfl rfl rfl (Y_move rfl) ?_; refine D0_val rfl rfl rfl (Y_move rfl) ?_; refine D0_skip rfl rfl ?_; refine D0_skip rfl rfl ?_; refine D0_skip rfl rfl ?_; refine D0_skip rfl rfl ?_; refine D0_val rfl rfl rfl (Y_pick_f rfl rfl) ?_; refine D0_val rfl rfl rfl (Y_pick_f rfl rfl) ?_; refine D0_val rfl rfl rfl (Y_move rfl) ?_; refine D0_val rfl rfl rfl (Y_move rfl) ?_; refine D0_val rfl rfl rfl (Y_not rfl rfl) ?_; refine D0_val rfl rfl rfl (Y_move rfl) ?_; refine D0_val rfl rfl rfl (Y_move rfl) ?_; refine D0_val rfl rfl rfl (Y_neq_f rfl rfl (by decide)) ?_; refine D0_val rfl rfl rfl (Y_pick_t rfl rfl) ?_; refine D0_val rfl rfl rfl (Y_pick_f rfl rfl) ?_; refine D0_nil ?_; refine X_seq ?_; refine T_cond_false rfl ?_; refine T_skip ?_; refine X_seq ?_; refine T_seq ?_; refine T_draw (by kernel_rfl) (by kernel_rfl) rfl ?_) | (refine S_val rfl rfl (Y_move rfl) ?_; refine S_val rfl rfl (Y_extract rfl rfl) ?_; refine S_val rfl rfl (Y_extract rfl rfl) ?_; refine S_val rfl rfl (Y_assign rfl) ?_; refine S_val rfl rfl (Y_assign rfl) ?_; refine S_nil ?_; refine X_seq ?_; refine T_seq ?_; refine T_region ?_; refine S_val rfl rfl (Y_move rfl) ?_; refine S_val rfl rfl (Y_min rfl rfl (by with_reducible exact nat_cast _) (nat_lit' _)) ?_; refine S_val rfl rfl (Y_conv (und rfl) (und rfl) rfl (wi64 (by omega) (by omega))) ?_; refine S_val rfl rfl (Y_assign rfl) ?_; refine S_nil ?_; refine X_seq ?_; refine T_seq ?_; refine T_region ?_; refine S_val rfl rfl (Y_assign rfl) ?_; refine S_nil ?_; refine X_seq ?_; refine T_seq ?_; refine T_seq ?_; refine T_region ?_; refine S_val rfl rfl (Y_move rfl) ?_; refine S_val rfl rfl (Y_lss_f rfl rfl (by omega)) ?_; refine S_nil ?_; refine X_seq ?_; refine T_cond_false rfl ?_; refine T_skip ?_; refine X_seq ?_; refine T_seq ?_; refine T_seq ?_; refine T_draw (by kernel_rfl) (by kernel_rfl) rfl ?_; refine D0_val rfl rfl rfl (Y_move rfl) ?_; refine D0_val rfl rfl rfl (Y_ixa (und rfl) (siz rfl) rfl rfl (nat_lit' _) (Nat.le_of_ble_eq_true rfl)) ?_; refine D0_valM rfl rfl rfl (Y_loadI 0 (und rfl) rfl rfl rfl (dl_get (Nat.le_of_ble_eq_true rfl))) ?_; refine D0_val rfl rfl rfl (Y_eql_t rfl rfl (by assumption)) ?_; refine D0_val rfl rfl rfl (Y_move rfl) ?_; refine D0_val rfl rfl rfl (Y_ixa (und rfl) (siz rfl) rfl rfl (nat_lit' _) (Nat.le_of_ble_eq_true rfl)) ?_; refine D0_valM rfl rfl rfl (Y_loadI 0 (und rfl) rfl rfl rfl (dl_get (Nat.le_of_ble_eq_true rfl))) ?_; refine D0_val rfl rfl rfl (Y_eql_f rfl rfl (by assumption)) ?_; refine D0_val rfl rfl rfl (Y_pick_t rfl rfl) ?_; refine D0_val rfl rfl rfl (Y_move rfl) ?_; refine D0_skip rfl rfl ?_; refine D0_skip rfl rfl ?_; refine D0_skip rfl rfl ?_; refine D0_val rfl rfl rfl (Y_pick_f rfl rfl) ?_; refine D0_val rfl rfl rfl (Y_neqB_f (und rfl) rfl rfl) ?_; refine D0_val rfl rfl rfl (Y_move rfl) ?_; refine D0_val rfl rfl rfl (Y_move rfl) ?_; refine D0_val rfl rfl rfl (Y_move rfl) ?_; refine D0_skip rfl rfl ?_; refine D0_skip rfl rfl ?_; refine D0_skip rfl rfl ?_; refine D0_skip rfl rfl ?_; refine D0_val rfl rfl rfl (Y_pick_f rfl rfl) ?_; refine D0_val rfl rfl rfl (Y_pick_f rfl rfl) ?_; refine D0_val rfl rfl rfl (Y_move rfl) ?_; refine D0_val rfl rfl rfl (Y_move rfl) ?_; refine D0_val rfl rfl rfl (Y_not rfl rfl) ?_; refine D0_val rfl rfl rfl (Y_move rfl) ?_; refine D0_val rfl rfl rfl (Y_move rfl) ?_; refine D0_val rfl rfl rfl (Y_neq_f rfl rfl (by decide)) ?_; refine D0_val rfl rfl rfl (Y_pick_t rfl rfl) ?_; refine D0_val rfl rfl rfl (Y_pick_f rfl rfl) ?_; refine D0_nil ?_; refine X_seq ?_; refine T_cond_false rfl ?_; refine T_skip ?_; refine X_seq ?_; refine T_seq ?_; refine T_draw (by kernel_rfl) (by kernel_rfl) rfl ?_) | (refine S_val rfl rfl (Y_move rfl) ?_; refine S_val rfl rfl (Y_extract rfl rfl) ?_; refine S_val rfl rfl (Y_extract rfl rfl) ?_; refine S_val rfl rfl (Y_assign rfl) ?_; refine S_val rfl rfl (Y_assign rfl) ?_; refine S_nil ?_; refine X_seq ?_; refine T_seq ?_; refine T_region ?_; refine S_val rfl rfl (Y_move rfl) ?_; refine S_val rfl rfl (Y_min rfl rfl (by with_reducible exact nat_cast _) (nat_lit' _)) ?_; refine S_val rfl rfl (Y_conv (und rfl) (und rfl) rfl (wi64 (by omega) (by omega))) ?_; refine S_val rfl rfl (Y_assign rfl) ?_; refine S_nil ?_; refine X_seq ?_; refine T_seq ?_; refine T_region ?_; refine S_val rfl rfl (Y_assign rfl) ?_; refine S_nil ?_; refine X_seq ?_; refine T_seq ?_; refine T_seq ?_; refine T_region ?_; refine S_val rfl rfl (Y_move rfl) ?_; refine S_val rfl rfl (Y_lss_f rfl rfl (by omega)) ?_; refine S_nil ?_; refine X_seq ?_; refine T_cond_false rfl ?_; refine T_skip ?_; refine X_seq ?_; refine T_seq ?_; refine T_seq ?_; refine T_draw (by kernel_rfl) (by kernel_rfl) rfl ?_; refine D0_val rfl rfl rfl (Y_move rfl) ?_; refine D0_val rfl rfl rfl (Y_ixa (und rfl) (siz rfl) rfl rfl (nat_lit' _) (Nat.le_of_ble_eq_true rfl)) ?_; refine D0_valM rfl rfl rfl (Y_loadI 0 (und rfl) rfl rfl rfl (dl_get (Nat.le_of_ble_eq_true rfl))) ?_; refine D0_val rfl rfl rfl (Y_eql_f rfl rfl (by assumption)) ?_; refine D0_val rfl rfl rfl (Y_move rfl) ?_; refine D0_skip rfl rfl ?_; refine D0_skip rfl rfl ?_; refine D0_skip rfl rfl ?_; refine D0_val rfl rfl rfl (Y_pick_f rfl rfl) ?_; refine D0_val rfl rfl rfl (Y_move rfl) ?_; refine D0_skip rfl rfl ?_; refine D0_skip rfl rfl ?_; refine D0_skip rfl rfl ?_; refine D0_val rfl rfl rfl (Y_pick_f rfl rfl) ?_; refine D0_val rfl rfl rfl (Y_neqB_f (und rfl) rfl rfl) ?_; refine D0_val rfl rfl rfl (Y_move rfl) ?_; refine D0_val rfl rfl rfl (Y_move rfl) ?_; refine D0_val rfl rfl rfl (Y_move rfl) ?_; refine D0_skip rfl rfl ?_; refine D0_skip rfl rfl ?_; refine D0_skip rfl rfl ?_; refine D0_skip rfl rfl ?_; refine D0_val rfl rfl rfl (Y_pick_f rfl rfl) ?_; refine D0_val rfl rfl rfl (Y_pick_f rfl rfl) ?_; refine D0_val rfl rfl rfl (Y_move rfl) ?_; refine D0_val rfl rfl rfl (Y_move rfl) ?_; refine D0_val rfl rfl rfl (Y_not rfl rfl) ?_; refine D0_val rfl rfl rfl (Y_move rfl) ?_; refine D0_val rfl rfl rfl (Y_move rfl) ?_; refine D0_val rfl rfl rfl (Y_neq_f rfl rfl (by decide)) ?_; refine D0_val rfl rfl rfl (Y_pick_t rfl rfl) ?_; refine D0_val rfl rfl rfl (Y_pick_f rfl rfl) ?_; refine D0_nil ?_; refine X_seq ?_; refine T_cond_false rfl ?_; refine T_skip ?_; refine X_seq ?_; refine T_seq ?_; refine T_draw (by kernel_rfl) (by kernel_rfl) rfl ?_)
        refine D0_callV rfl rfl (bod rfl) (fun w _ => fixed_any _) rfl rfl ?_
        refine D0_val rfl rfl rfl (Y_move rfl) ?_
        refine D0_valM rfl rfl rfl (Y_loadAI 0 (und rfl) rfl rfl rfl (siz rfl) (dl_length _ _ _)) ?_
        refine D0_valM rfl rfl rfl (Y_loadAI 1 (und rfl) rfl rfl rfl (siz rfl) (dl_length _ _ _)) ?_
        refine D0_callV rfl rfl (bod rfl) (fun w _ => compare_any x y hx hy _) rfl rfl ?_
        refine D0_valM rfl rfl rfl (Y_loadAI 2 (und rfl) rfl rfl rfl (siz rfl) (dl_length _ _ _)) ?_
        refine D0_valM rfl rfl rfl (Y_loadAI 1 (und rfl) rfl rfl rfl (siz rfl) (dl_length _ _ _)) ?_
        refine D0_callV rfl rfl (bod rfl) (fun w _ => rof_any y _) rfl rfl ?_
        skip
        refine D0_callV rfl rfl (bod rfl) (fun w _ => rcompare_any x y hx hy _) rfl rfl ?_
        refine D0_val rfl rfl rfl (Y_eql_t rfl rfl (by omega)) ?_
        refine D0_val rfl rfl rfl (Y_pick_t rfl rfl) ?_
        refine D0_val rfl rfl rfl (Y_move rfl) ?_
        refine D0_valM rfl rfl rfl (Y_loadAI 0 (und rfl) rfl rfl rfl (siz rfl) (dl_length _ _ _)) ?_
        refine D0_val rfl rfl rfl (Y_move rfl) ?_
        refine D0_valM rfl rfl rfl (Y_conv (und rfl) (und rfl) rfl (wu64 (by omega) (by omega))) ?_
        refine D0_callV rfl rfl (bod rfl) (fun w _ => hb _) rfl rfl ?_
        refine D0_valM rfl rfl rfl (Y_loadAI 2 (und rfl) rfl rfl rfl (siz rfl) (dl_length _ _ _)) ?_
        refine D0_val rfl rfl rfl (Y_move rfl) ?_
        refine D0_callV rfl rfl (bod rfl) (fun w _ => rbit_any x _ _) rfl rfl ?_
        refine D0_val rfl rfl rfl (Y_eql rfl rfl) ?_
        refine D0_val rfl rfl rfl (Y_eqlB_t (und rfl) rfl rfl) ?_
        refine D0_val rfl rfl rfl (Y_pick_t rfl rfl) ?_
        refine D0_val rfl rfl rfl (Y_move rfl) ?_
        refine D0_valM rfl rfl rfl (Y_loadAI 0 (und rfl) rfl rfl rfl (siz rfl) (dl_length _ _ _)) ?_
        refine D0_callV rfl rfl (bod rfl) (fun w _ => len_any x hx _) rfl rfl ?_
        refine D0_valM rfl rfl rfl (Y_loadAI 2 (und rfl) rfl rfl rfl (siz rfl) (dl_length _ _ _)) ?_
        refine D0_callV rfl rfl (bod rfl) (fun w _ => rlen_any x hx _) rfl rfl ?_
        refine D0_val rfl rfl rfl (Y_eql_t rfl rfl (by omega)) ?_
        refine D0_val rfl rfl rfl (Y_pick_t rfl rfl) ?_
        refine D0_val rfl rfl rfl (Y_move rfl) ?_
        refine D0_valM rfl rfl rfl (Y_loadAI 0 (und rfl) rfl rfl rfl (siz rfl) (dl_length _ _ _)) ?_
        refine D0_val rfl rfl rfl (Y_move rfl) ?_
        refine D0_callV rfl rfl (bod rfl) (fun w _ => hby _) rfl rfl ?_
        refine D0_val rfl rfl rfl (Y_move rfl) ?_
        refine D0_val rfl rfl rfl (Y_eql_t rfl rfl (by decide)) ?_
        refine D0_val rfl rfl rfl (Y_pick_t rfl rfl) ?_
        refine D0_val rfl rfl rfl (Y_move rfl) ?_
        refine D0_valM rfl rfl rfl (Y_loadAI 0 (und rfl) rfl rfl rfl (siz rfl) (dl_length _ _ _)) ?_
        refine D0_callV rfl rfl (bod rfl) (fun w _ => size_any x hx hl _) rfl rfl ?_
        refine D0_valM rfl rfl rfl (Y_loadAI 2 (und rfl) rfl rfl rfl (siz rfl) (dl_length _ _ _)) ?_
        refine D0_callV rfl rfl (bod rfl) (fun w _ => rlen_any x hx _) rfl rfl ?_
        refine D0_val rfl rfl rfl (Y_addN rfl rfl (nat_cast _) (nat_lit' _) (by omega)) ?_
        refine D0_val rfl rfl rfl (Y_quoN rfl rfl (nat_cast _) (nat_lit' _) (Nat.succ_ne_zero _) (by simp only [IntKind.max, IntKind.signed, IntKind.bits, Bool.false_eq_true, if_false, if_true]; omega)) ?_
        refine D0_val rfl rfl rfl (Y_eql_t rfl rfl (by omega)) ?_
        refine D0_val rfl rfl rfl (Y_pick_t rfl rfl) ?_
        refine D0_val rfl rfl rfl (Y_assign rfl) ?_
        refine D0_nil ?_
        refine X_seq ?_
        refine T_ret ?_
        ((first | refine X_fin_ret ?_ | refine X_fin ?_); exact ⟨[_], [], .cons (.tmp rfl) .nil, Emb.nil _, rfl, rfl⟩)
end Go.Proofs.Ytepmghjiemggpaa
