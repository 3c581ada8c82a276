import Derived.Test.YtchoncjikdfbgaaGreatLawAlu
import Derived.Test.YtchoncjikdfbgaaGreatRN3
import Derived.Test.YtchoncjikdfbgaaGreatWide4
import Derived.Test.YtchoncjikdfbgaaGreatSign4
import Derived.Test.YtchoncjikdfbgaaGreatLawSignLess
import Derived.Test.YtchoncjikdfbgaaGreatLawSignDiv
import Derived.Test.YtchoncjikdfbgaaGreatLawSignSh
import Derived.Test.YtchoncjikdfbgaaGreatRef3
import Derived.Test.YtchoncjikdfbgaaGreatDraw4
/- The reference of layer 17. -/
namespace Go.Proofs.YtchoncjikdfbgaaGreat
open Go.RowKit
set_option maxRecDepth 20000
set_option maxHeartbeats 4000000

theorem rtruth17_any (b : Bool) (w : World) : Fn Tryz.prog 16 #[.bool b] w fun v N => v = W (bN b) ∧ N = [] := by
  cases b
  · refine Fn_of (args := [.bool false]) Tryz.func16 rfl Tryz.ntmps16 Tryz.results16 (by simp) ?_
    refine T_seq ?_
    refine T_region ?_
    refine S_allocA (zer rfl) rfl rfl fun _ => ?_
    refine S_nil ?_
    refine X_seq ?_
    refine T_seq ?_
    refine T_seq ?_
    refine T_region ?_
    refine S_val rfl rfl (Y_move rfl) ?_
    refine S_nil ?_
    refine X_seq ?_
    refine T_cond_false rfl ?_
    refine T_skip ?_
    refine X_seq ?_
    refine T_seq ?_
    refine T_region ?_
    refine S_val rfl rfl (Y_build (und rfl) (siz rfl) (zer rfl) rfl rfl) ?_
    refine S_storeAI 0 (siz rfl) rfl rfl rfl rfl rfl rfl ?_
    refine S_nil ?_
    refine X_seq ?_
    refine T_ret ?_
    ((first | refine X_fin_ret ?_ | refine X_fin ?_); exact ⟨[_], [], .cons (.agg 0 rfl (und rfl) rfl rfl (siz rfl)) .nil, Emb.nil _, congrArg (fun l => Value.agg (ints .u64 l)) w_zero, rfl⟩)
  · refine Fn_of (args := [.bool true]) Tryz.func16 rfl Tryz.ntmps16 Tryz.results16 (by simp) ?_
    refine T_seq ?_
    refine T_region ?_
    refine S_allocA (zer rfl) rfl rfl fun _ => ?_
    refine S_nil ?_
    refine X_seq ?_
    refine T_seq ?_
    refine T_seq ?_
    refine T_region ?_
    refine S_val rfl rfl (Y_move rfl) ?_
    refine S_nil ?_
    refine X_seq ?_
    refine T_cond_true rfl ?_
    refine T_seq ?_
    refine T_region ?_
    refine S_val rfl rfl (Y_build (und rfl) (siz rfl) (zer rfl) rfl rfl) ?_
    refine S_storeAI 0 (siz rfl) rfl rfl rfl rfl rfl rfl ?_
    refine S_nil ?_
    refine X_seq ?_
    refine T_ret ?_
    refine X_seq_ret ?_
    ((first | refine X_fin_ret ?_ | refine X_fin ?_); exact ⟨[_], [], .cons (.agg 0 rfl (und rfl) rfl rfl (siz rfl)) .nil, Emb.nil _, congrArg (fun l => Value.agg (ints .u64 l)) (w_of (n := 1) (by omega)), rfl⟩)
theorem rby_any (a : Nat) (ha : a < 2 ^ 256) (w : World) : Fn Tryz.prog 22 #[W a] w fun v N => v = .int .i64 ((min a 256 : Nat) : Int) ∧ N = [] := by
  by_cases l1 : a / 18446744073709551616 ^ 1 % 18446744073709551616 = 0
  · have l1' : ¬ ((a / 18446744073709551616 ^ 1 % 18446744073709551616 : Nat) : Int) ≠ 0 := by omega
    by_cases l2 : a / 18446744073709551616 ^ 2 % 18446744073709551616 = 0
    · have l2' : ¬ ((a / 18446744073709551616 ^ 2 % 18446744073709551616 : Nat) : Int) ≠ 0 := by omega
      by_cases l3 : a / 18446744073709551616 ^ 3 % 18446744073709551616 = 0
      · have l3' : ¬ ((a / 18446744073709551616 ^ 3 % 18446744073709551616 : Nat) : Int) ≠ 0 := by omega
        by_cases l0 : 256 < a / 18446744073709551616 ^ 0 % 18446744073709551616
        · rw [show min a 256 = 256 by omega]
          clear ha
          refine Fn_of (args := [W a]) Tryz.func22 rfl Tryz.ntmps22 Tryz.results22 (by simp) ?_
          refine T_seq ?_
          refine T_region ?_
          refine S_boxA rfl rfl rfl fun _ => ?_
          refine S_val rfl rfl (Y_assign rfl) ?_
          refine S_nil ?_
          refine X_seq ?_
          refine T_seq ?_
          refine T_seq ?_
          refine T_region ?_
          refine S_val rfl rfl (Y_ixa (und rfl) (siz rfl) rfl rfl (nat_lit' _) (Nat.le_of_ble_eq_true rfl)) ?_
          refine S_val rfl rfl (Y_loadI 0 (und rfl) rfl rfl rfl (dl_get (Nat.le_of_ble_eq_true rfl))) ?_
          refine S_val rfl rfl (Y_neq_f rfl rfl (by assumption)) ?_
          refine S_val rfl rfl (Y_move rfl) ?_
          refine S_val rfl rfl (Y_ixa (und rfl) (siz rfl) rfl rfl (nat_lit' _) (Nat.le_of_ble_eq_true rfl)) ?_
          refine S_val rfl rfl (Y_loadI 0 (und rfl) rfl rfl rfl (dl_get (Nat.le_of_ble_eq_true rfl))) ?_
          refine S_val rfl rfl (Y_neq_f rfl rfl (by assumption)) ?_
          refine S_val rfl rfl (Y_pick_f rfl rfl) ?_
          refine S_val rfl rfl (Y_move rfl) ?_
          refine S_val rfl rfl (Y_ixa (und rfl) (siz rfl) rfl rfl (nat_lit' _) (Nat.le_of_ble_eq_true rfl)) ?_
          refine S_val rfl rfl (Y_loadI 0 (und rfl) rfl rfl rfl (dl_get (Nat.le_of_ble_eq_true rfl))) ?_
          refine S_val rfl rfl (Y_neq_f rfl rfl (by assumption)) ?_
          refine S_val rfl rfl (Y_pick_f rfl rfl) ?_
          refine S_val rfl rfl (Y_move rfl) ?_
          refine S_val rfl rfl (Y_ixa (und rfl) (siz rfl) rfl rfl (nat_lit' _) (Nat.le_of_ble_eq_true rfl)) ?_
          refine S_val rfl rfl (Y_loadI 0 (und rfl) rfl rfl rfl (dl_get (Nat.le_of_ble_eq_true rfl))) ?_
          refine S_val rfl rfl (Y_gtr_t rfl rfl (by omega)) ?_
          refine S_val rfl rfl (Y_pick_f rfl rfl) ?_
          refine S_nil ?_
          refine X_seq ?_
          refine T_cond_true rfl ?_
          refine T_seq ?_
          refine T_region ?_
          refine S_val rfl rfl (Y_assign rfl) ?_
          refine S_nil ?_
          refine X_seq ?_
          refine T_ret ?_
          refine X_seq_ret ?_
          ((first | refine X_fin_ret ?_ | refine X_fin ?_); exact ⟨[_], [], .cons (.tmp rfl) .nil, Emb.nil _, rfl, rfl⟩)
        · have e : a / 18446744073709551616 ^ 0 % 18446744073709551616 = min a 256 := by omega
          rw [← e]
          clear ha e
          refine Fn_of (args := [W a]) Tryz.func22 rfl Tryz.ntmps22 Tryz.results22 (by simp) ?_
          refine T_seq ?_
          refine T_region ?_
          refine S_boxA rfl rfl rfl fun _ => ?_
          refine S_val rfl rfl (Y_assign rfl) ?_
          refine S_nil ?_
          refine X_seq ?_
          refine T_seq ?_
          refine T_seq ?_
          refine T_region ?_
          refine S_val rfl rfl (Y_ixa (und rfl) (siz rfl) rfl rfl (nat_lit' _) (Nat.le_of_ble_eq_true rfl)) ?_
          refine S_val rfl rfl (Y_loadI 0 (und rfl) rfl rfl rfl (dl_get (Nat.le_of_ble_eq_true rfl))) ?_
          refine S_val rfl rfl (Y_neq_f rfl rfl (by assumption)) ?_
          refine S_val rfl rfl (Y_move rfl) ?_
          refine S_val rfl rfl (Y_ixa (und rfl) (siz rfl) rfl rfl (nat_lit' _) (Nat.le_of_ble_eq_true rfl)) ?_
          refine S_val rfl rfl (Y_loadI 0 (und rfl) rfl rfl rfl (dl_get (Nat.le_of_ble_eq_true rfl))) ?_
          refine S_val rfl rfl (Y_neq_f rfl rfl (by assumption)) ?_
          refine S_val rfl rfl (Y_pick_f rfl rfl) ?_
          refine S_val rfl rfl (Y_move rfl) ?_
          refine S_val rfl rfl (Y_ixa (und rfl) (siz rfl) rfl rfl (nat_lit' _) (Nat.le_of_ble_eq_true rfl)) ?_
          refine S_val rfl rfl (Y_loadI 0 (und rfl) rfl rfl rfl (dl_get (Nat.le_of_ble_eq_true rfl))) ?_
          refine S_val rfl rfl (Y_neq_f rfl rfl (by assumption)) ?_
          refine S_val rfl rfl (Y_pick_f rfl rfl) ?_
          refine S_val rfl rfl (Y_move rfl) ?_
          refine S_val rfl rfl (Y_ixa (und rfl) (siz rfl) rfl rfl (nat_lit' _) (Nat.le_of_ble_eq_true rfl)) ?_
          refine S_val rfl rfl (Y_loadI 0 (und rfl) rfl rfl rfl (dl_get (Nat.le_of_ble_eq_true rfl))) ?_
          refine S_val rfl rfl (Y_gtr_f rfl rfl (by omega)) ?_
          refine S_val rfl rfl (Y_pick_f rfl rfl) ?_
          refine S_nil ?_
          refine X_seq ?_
          refine T_cond_false rfl ?_
          refine T_skip ?_
          refine X_seq ?_
          refine T_seq ?_
          refine T_region ?_
          refine S_val rfl rfl (Y_ixa (und rfl) (siz rfl) rfl rfl (nat_lit' _) (Nat.le_of_ble_eq_true rfl)) ?_
          refine S_val rfl rfl (Y_loadI 0 (und rfl) rfl rfl rfl (dl_get (Nat.le_of_ble_eq_true rfl))) ?_
          refine S_val rfl rfl (Y_conv (und rfl) (und rfl) rfl (wi64 (by omega) (by omega))) ?_
          refine S_val rfl rfl (Y_assign rfl) ?_
          refine S_nil ?_
          refine X_seq ?_
          refine T_ret ?_
          ((first | refine X_fin_ret ?_ | refine X_fin ?_); exact ⟨[_], [], .cons (.tmp rfl) .nil, Emb.nil _, rfl, rfl⟩)
      · have l3' : ((a / 18446744073709551616 ^ 3 % 18446744073709551616 : Nat) : Int) ≠ 0 := by omega
        rw [show min a 256 = 256 by omega]
        clear ha
        refine Fn_of (args := [W a]) Tryz.func22 rfl Tryz.ntmps22 Tryz.results22 (by simp) ?_
        refine T_seq ?_
        refine T_region ?_
        refine S_boxA rfl rfl rfl fun _ => ?_
        refine S_val rfl rfl (Y_assign rfl) ?_
        refine S_nil ?_
        refine X_seq ?_
        refine T_seq ?_
        refine T_seq ?_
        refine T_region ?_
        refine S_val rfl rfl (Y_ixa (und rfl) (siz rfl) rfl rfl (nat_lit' _) (Nat.le_of_ble_eq_true rfl)) ?_
        refine S_val rfl rfl (Y_loadI 0 (und rfl) rfl rfl rfl (dl_get (Nat.le_of_ble_eq_true rfl))) ?_
        refine S_val rfl rfl (Y_neq_f rfl rfl (by assumption)) ?_
        refine S_val rfl rfl (Y_move rfl) ?_
        refine S_val rfl rfl (Y_ixa (und rfl) (siz rfl) rfl rfl (nat_lit' _) (Nat.le_of_ble_eq_true rfl)) ?_
        refine S_val rfl rfl (Y_loadI 0 (und rfl) rfl rfl rfl (dl_get (Nat.le_of_ble_eq_true rfl))) ?_
        refine S_val rfl rfl (Y_neq_f rfl rfl (by assumption)) ?_
        refine S_val rfl rfl (Y_pick_f rfl rfl) ?_
        refine S_val rfl rfl (Y_move rfl) ?_
        refine S_val rfl rfl (Y_ixa (und rfl) (siz rfl) rfl rfl (nat_lit' _) (Nat.le_of_ble_eq_true rfl)) ?_
        refine S_val rfl rfl (Y_loadI 0 (und rfl) rfl rfl rfl (dl_get (Nat.le_of_ble_eq_true rfl))) ?_
        refine S_val rfl rfl (Y_neq_t rfl rfl (by assumption)) ?_
        refine S_val rfl rfl (Y_pick_f rfl rfl) ?_
        refine S_val rfl rfl (Y_move rfl) ?_
        refine S_skip rfl rfl ?_
        refine S_skip rfl rfl ?_
        refine S_skip rfl rfl ?_
        refine S_val rfl rfl (Y_pick_t rfl rfl) ?_
        refine S_nil ?_
        refine X_seq ?_
        refine T_cond_true rfl ?_
        refine T_seq ?_
        refine T_region ?_
        refine S_val rfl rfl (Y_assign rfl) ?_
        refine S_nil ?_
        refine X_seq ?_
        refine T_ret ?_
        refine X_seq_ret ?_
        ((first | refine X_fin_ret ?_ | refine X_fin ?_); exact ⟨[_], [], .cons (.tmp rfl) .nil, Emb.nil _, rfl, rfl⟩)
    · have l2' : ((a / 18446744073709551616 ^ 2 % 18446744073709551616 : Nat) : Int) ≠ 0 := by omega
      rw [show min a 256 = 256 by omega]
      clear ha
      refine Fn_of (args := [W a]) Tryz.func22 rfl Tryz.ntmps22 Tryz.results22 (by simp) ?_
      refine T_seq ?_
      refine T_region ?_
      refine S_boxA rfl rfl rfl fun _ => ?_
      refine S_val rfl rfl (Y_assign rfl) ?_
      refine S_nil ?_
      refine X_seq ?_
      refine T_seq ?_
      refine T_seq ?_
      refine T_region ?_
      refine S_val rfl rfl (Y_ixa (und rfl) (siz rfl) rfl rfl (nat_lit' _) (Nat.le_of_ble_eq_true rfl)) ?_
      refine S_val rfl rfl (Y_loadI 0 (und rfl) rfl rfl rfl (dl_get (Nat.le_of_ble_eq_true rfl))) ?_
      refine S_val rfl rfl (Y_neq_f rfl rfl (by assumption)) ?_
      refine S_val rfl rfl (Y_move rfl) ?_
      refine S_val rfl rfl (Y_ixa (und rfl) (siz rfl) rfl rfl (nat_lit' _) (Nat.le_of_ble_eq_true rfl)) ?_
      refine S_val rfl rfl (Y_loadI 0 (und rfl) rfl rfl rfl (dl_get (Nat.le_of_ble_eq_true rfl))) ?_
      refine S_val rfl rfl (Y_neq_t rfl rfl (by assumption)) ?_
      refine S_val rfl rfl (Y_pick_f rfl rfl) ?_
      refine S_val rfl rfl (Y_move rfl) ?_
      refine S_skip rfl rfl ?_
      refine S_skip rfl rfl ?_
      refine S_skip rfl rfl ?_
      refine S_val rfl rfl (Y_pick_t rfl rfl) ?_
      refine S_val rfl rfl (Y_move rfl) ?_
      refine S_skip rfl rfl ?_
      refine S_skip rfl rfl ?_
      refine S_skip rfl rfl ?_
      refine S_val rfl rfl (Y_pick_t rfl rfl) ?_
      refine S_nil ?_
      refine X_seq ?_
      refine T_cond_true rfl ?_
      refine T_seq ?_
      refine T_region ?_
      refine S_val rfl rfl (Y_assign rfl) ?_
      refine S_nil ?_
      refine X_seq ?_
      refine T_ret ?_
      refine X_seq_ret ?_
      ((first | refine X_fin_ret ?_ | refine X_fin ?_); exact ⟨[_], [], .cons (.tmp rfl) .nil, Emb.nil _, rfl, rfl⟩)
  · have l1' : ((a / 18446744073709551616 ^ 1 % 18446744073709551616 : Nat) : Int) ≠ 0 := by omega
    rw [show min a 256 = 256 by omega]
    clear ha
    refine Fn_of (args := [W a]) Tryz.func22 rfl Tryz.ntmps22 Tryz.results22 (by simp) ?_
    refine T_seq ?_
    refine T_region ?_
    refine S_boxA rfl rfl rfl fun _ => ?_
    refine S_val rfl rfl (Y_assign rfl) ?_
    refine S_nil ?_
    refine X_seq ?_
    refine T_seq ?_
    refine T_seq ?_
    refine T_region ?_
    refine S_val rfl rfl (Y_ixa (und rfl) (siz rfl) rfl rfl (nat_lit' _) (Nat.le_of_ble_eq_true rfl)) ?_
    refine S_val rfl rfl (Y_loadI 0 (und rfl) rfl rfl rfl (dl_get (Nat.le_of_ble_eq_true rfl))) ?_
    refine S_val rfl rfl (Y_neq_t rfl rfl (by assumption)) ?_
    refine S_val rfl rfl (Y_move rfl) ?_
    refine S_skip rfl rfl ?_
    refine S_skip rfl rfl ?_
    refine S_skip rfl rfl ?_
    refine S_val rfl rfl (Y_pick_t rfl rfl) ?_
    refine S_val rfl rfl (Y_move rfl) ?_
    refine S_skip rfl rfl ?_
    refine S_skip rfl rfl ?_
    refine S_skip rfl rfl ?_
    refine S_val rfl rfl (Y_pick_t rfl rfl) ?_
    refine S_val rfl rfl (Y_move rfl) ?_
    refine S_skip rfl rfl ?_
    refine S_skip rfl rfl ?_
    refine S_skip rfl rfl ?_
    refine S_val rfl rfl (Y_pick_t rfl rfl) ?_
    refine S_nil ?_
    refine X_seq ?_
    refine T_cond_true rfl ?_
    refine T_seq ?_
    refine T_region ?_
    refine S_val rfl rfl (Y_assign rfl) ?_
    refine S_nil ?_
    refine X_seq ?_
    refine T_ret ?_
    refine X_seq_ret ?_
    ((first | refine X_fin_ret ?_ | refine X_fin ?_); exact ⟨[_], [], .cons (.tmp rfl) .nil, Emb.nil _, rfl, rfl⟩)
theorem rtakes_any (op : Nat) (w : World) : Fn Tryz.prog 8 #[.int .u8 op] w fun v N => v = .int .i64 ((tkN op : Nat) : Int) ∧ N = [] := by
  unfold tkN
  by_cases h8 : op = 8
  · rw [if_pos (.inl h8)]
    refine Fn_of (args := [.int .u8 op]) Tryz.func8 rfl Tryz.ntmps8 Tryz.results8 (by simp) ?_
    refine T_seq ?_
    refine T_region ?_
    refine S_val rfl rfl (Y_assign rfl) ?_
    refine S_nil ?_
    refine X_seq ?_
    refine T_seq ?_
    refine T_seq ?_
    refine T_region ?_
    refine S_val rfl rfl (Y_move rfl) ?_
    refine S_val rfl rfl (Y_eql_t rfl rfl (by omega)) ?_
    refine S_val rfl rfl (Y_move rfl) ?_
    refine S_skip rfl rfl ?_
    refine S_skip rfl rfl ?_
    refine S_val rfl rfl (Y_pick_t rfl rfl) ?_
    refine S_nil ?_
    refine X_seq ?_
    refine T_cond_true rfl ?_
    refine T_seq ?_
    refine T_region ?_
    refine S_val rfl rfl (Y_assign rfl) ?_
    refine S_nil ?_
    refine X_seq ?_
    refine T_ret ?_
    refine X_seq_ret ?_
    ((first | refine X_fin_ret ?_ | refine X_fin ?_); exact ⟨[_], [], .cons (.tmp rfl) .nil, Emb.nil _, rfl, rfl⟩)
  · by_cases h9 : op = 9
    · rw [if_pos (.inr h9)]
      refine Fn_of (args := [.int .u8 op]) Tryz.func8 rfl Tryz.ntmps8 Tryz.results8 (by simp) ?_
      refine T_seq ?_
      refine T_region ?_
      refine S_val rfl rfl (Y_assign rfl) ?_
      refine S_nil ?_
      refine X_seq ?_
      refine T_seq ?_
      refine T_seq ?_
      refine T_region ?_
      refine S_val rfl rfl (Y_move rfl) ?_
      refine S_val rfl rfl (Y_eql_f rfl rfl (by omega)) ?_
      refine S_val rfl rfl (Y_move rfl) ?_
      refine S_val rfl rfl (Y_move rfl) ?_
      refine S_val rfl rfl (Y_eql_t rfl rfl (by omega)) ?_
      refine S_val rfl rfl (Y_pick_f rfl rfl) ?_
      refine S_nil ?_
      refine X_seq ?_
      refine T_cond_true rfl ?_
      refine T_seq ?_
      refine T_region ?_
      refine S_val rfl rfl (Y_assign rfl) ?_
      refine S_nil ?_
      refine X_seq ?_
      refine T_ret ?_
      refine X_seq_ret ?_
      ((first | refine X_fin_ret ?_ | refine X_fin ?_); exact ⟨[_], [], .cons (.tmp rfl) .nil, Emb.nil _, rfl, rfl⟩)
    · rw [if_neg (by omega)]
      by_cases h21 : op = 21
      · rw [if_pos (.inl h21)]
        refine Fn_of (args := [.int .u8 op]) Tryz.func8 rfl Tryz.ntmps8 Tryz.results8 (by simp) ?_
        refine T_seq ?_
        refine T_region ?_
        refine S_val rfl rfl (Y_assign rfl) ?_
        refine S_nil ?_
        refine X_seq ?_
        refine T_seq ?_
        refine T_seq ?_
        refine T_region ?_
        refine S_val rfl rfl (Y_move rfl) ?_
        refine S_val rfl rfl (Y_eql_f rfl rfl (by omega)) ?_
        refine S_val rfl rfl (Y_move rfl) ?_
        refine S_val rfl rfl (Y_move rfl) ?_
        refine S_val rfl rfl (Y_eql_f rfl rfl (by omega)) ?_
        refine S_val rfl rfl (Y_pick_f rfl rfl) ?_
        refine S_nil ?_
        refine X_seq ?_
        refine T_cond_false rfl ?_
        refine T_skip ?_
        refine X_seq ?_
        refine T_seq ?_
        refine T_seq ?_
        refine T_region ?_
        refine S_val rfl rfl (Y_move rfl) ?_
        refine S_val rfl rfl (Y_eql_t rfl rfl (by omega)) ?_
        refine S_val rfl rfl (Y_move rfl) ?_
        refine S_skip rfl rfl ?_
        refine S_skip rfl rfl ?_
        refine S_val rfl rfl (Y_pick_t rfl rfl) ?_
        refine S_nil ?_
        refine X_seq ?_
        refine T_cond_true rfl ?_
        refine T_seq ?_
        refine T_region ?_
        refine S_val rfl rfl (Y_assign rfl) ?_
        refine S_nil ?_
        refine X_seq ?_
        refine T_ret ?_
        refine X_seq_ret ?_
        ((first | refine X_fin_ret ?_ | refine X_fin ?_); exact ⟨[_], [], .cons (.tmp rfl) .nil, Emb.nil _, rfl, rfl⟩)
      · by_cases h25 : op = 25
        · rw [if_pos (.inr h25)]
          refine Fn_of (args := [.int .u8 op]) Tryz.func8 rfl Tryz.ntmps8 Tryz.results8 (by simp) ?_
          refine T_seq ?_
          refine T_region ?_
          refine S_val rfl rfl (Y_assign rfl) ?_
          refine S_nil ?_
          refine X_seq ?_
          refine T_seq ?_
          refine T_seq ?_
          refine T_region ?_
          refine S_val rfl rfl (Y_move rfl) ?_
          refine S_val rfl rfl (Y_eql_f rfl rfl (by omega)) ?_
          refine S_val rfl rfl (Y_move rfl) ?_
          refine S_val rfl rfl (Y_move rfl) ?_
          refine S_val rfl rfl (Y_eql_f rfl rfl (by omega)) ?_
          refine S_val rfl rfl (Y_pick_f rfl rfl) ?_
          refine S_nil ?_
          refine X_seq ?_
          refine T_cond_false rfl ?_
          refine T_skip ?_
          refine X_seq ?_
          refine T_seq ?_
          refine T_seq ?_
          refine T_region ?_
          refine S_val rfl rfl (Y_move rfl) ?_
          refine S_val rfl rfl (Y_eql_f rfl rfl (by omega)) ?_
          refine S_val rfl rfl (Y_move rfl) ?_
          refine S_val rfl rfl (Y_move rfl) ?_
          refine S_val rfl rfl (Y_eql_t rfl rfl (by omega)) ?_
          refine S_val rfl rfl (Y_pick_f rfl rfl) ?_
          refine S_nil ?_
          refine X_seq ?_
          refine T_cond_true rfl ?_
          refine T_seq ?_
          refine T_region ?_
          refine S_val rfl rfl (Y_assign rfl) ?_
          refine S_nil ?_
          refine X_seq ?_
          refine T_ret ?_
          refine X_seq_ret ?_
          ((first | refine X_fin_ret ?_ | refine X_fin ?_); exact ⟨[_], [], .cons (.tmp rfl) .nil, Emb.nil _, rfl, rfl⟩)
        · rw [if_neg (by omega)]
          by_cases h1 : 1 ≤ op ∧ op ≤ 11
          · rw [if_pos (.inl h1)]
            obtain ⟨h1, h2⟩ := h1
            refine Fn_of (args := [.int .u8 op]) Tryz.func8 rfl Tryz.ntmps8 Tryz.results8 (by simp) ?_
            refine T_seq ?_
            refine T_region ?_
            refine S_val rfl rfl (Y_assign rfl) ?_
            refine S_nil ?_
            refine X_seq ?_
            refine T_seq ?_
            refine T_seq ?_
            refine T_region ?_
            refine S_val rfl rfl (Y_move rfl) ?_
            refine S_val rfl rfl (Y_eql_f rfl rfl (by omega)) ?_
            refine S_val rfl rfl (Y_move rfl) ?_
            refine S_val rfl rfl (Y_move rfl) ?_
            refine S_val rfl rfl (Y_eql_f rfl rfl (by omega)) ?_
            refine S_val rfl rfl (Y_pick_f rfl rfl) ?_
            refine S_nil ?_
            refine X_seq ?_
            refine T_cond_false rfl ?_
            refine T_skip ?_
            refine X_seq ?_
            refine T_seq ?_
            refine T_seq ?_
            refine T_region ?_
            refine S_val rfl rfl (Y_move rfl) ?_
            refine S_val rfl rfl (Y_eql_f rfl rfl (by omega)) ?_
            refine S_val rfl rfl (Y_move rfl) ?_
            refine S_val rfl rfl (Y_move rfl) ?_
            refine S_val rfl rfl (Y_eql_f rfl rfl (by omega)) ?_
            refine S_val rfl rfl (Y_pick_f rfl rfl) ?_
            refine S_nil ?_
            refine X_seq ?_
            refine T_cond_false rfl ?_
            refine T_skip ?_
            refine X_seq ?_
            refine T_seq ?_
            refine T_seq ?_
            refine T_region ?_
            refine S_val rfl rfl (Y_move rfl) ?_
            refine S_val rfl rfl (Y_geq_t rfl rfl (by omega)) ?_
            refine S_val rfl rfl (Y_move rfl) ?_
            refine S_val rfl rfl (Y_move rfl) ?_
            refine S_val rfl rfl (Y_leq_t rfl rfl (by omega)) ?_
            refine S_val rfl rfl (Y_pick_t rfl rfl) ?_
            refine S_val rfl rfl (Y_move rfl) ?_
            refine S_skip rfl rfl ?_
            refine S_skip rfl rfl ?_
            refine S_skip rfl rfl ?_
            refine S_skip rfl rfl ?_
            refine S_skip rfl rfl ?_
            refine S_skip rfl rfl ?_
            refine S_val rfl rfl (Y_pick_t rfl rfl) ?_
            refine S_nil ?_
            refine X_seq ?_
            refine T_cond_true rfl ?_
            refine T_seq ?_
            refine T_region ?_
            refine S_val rfl rfl (Y_assign rfl) ?_
            refine S_nil ?_
            refine X_seq ?_
            refine T_ret ?_
            refine X_seq_ret ?_
            ((first | refine X_fin_ret ?_ | refine X_fin ?_); exact ⟨[_], [], .cons (.tmp rfl) .nil, Emb.nil _, rfl, rfl⟩)
          · by_cases h2 : 16 ≤ op ∧ op ≤ 29
            · rw [if_pos (.inr h2)]
              obtain ⟨h2, h3⟩ := h2
              have h4 : ¬ op ≤ 11 := by omega
              clear h1
              refine Fn_of (args := [.int .u8 op]) Tryz.func8 rfl Tryz.ntmps8 Tryz.results8 (by simp) ?_
              refine T_seq ?_
              refine T_region ?_
              refine S_val rfl rfl (Y_assign rfl) ?_
              refine S_nil ?_
              refine X_seq ?_
              refine T_seq ?_
              refine T_seq ?_
              refine T_region ?_
              refine S_val rfl rfl (Y_move rfl) ?_
              refine S_val rfl rfl (Y_eql_f rfl rfl (by omega)) ?_
              refine S_val rfl rfl (Y_move rfl) ?_
              refine S_val rfl rfl (Y_move rfl) ?_
              refine S_val rfl rfl (Y_eql_f rfl rfl (by omega)) ?_
              refine S_val rfl rfl (Y_pick_f rfl rfl) ?_
              refine S_nil ?_
              refine X_seq ?_
              refine T_cond_false rfl ?_
              refine T_skip ?_
              refine X_seq ?_
              refine T_seq ?_
              refine T_seq ?_
              refine T_region ?_
              refine S_val rfl rfl (Y_move rfl) ?_
              refine S_val rfl rfl (Y_eql_f rfl rfl (by omega)) ?_
              refine S_val rfl rfl (Y_move rfl) ?_
              refine S_val rfl rfl (Y_move rfl) ?_
              refine S_val rfl rfl (Y_eql_f rfl rfl (by omega)) ?_
              refine S_val rfl rfl (Y_pick_f rfl rfl) ?_
              refine S_nil ?_
              refine X_seq ?_
              refine T_cond_false rfl ?_
              refine T_skip ?_
              refine X_seq ?_
              refine T_seq ?_
              refine T_seq ?_
              refine T_region ?_
              refine S_val rfl rfl (Y_move rfl) ?_
              refine S_val rfl rfl (Y_geq_t rfl rfl (by omega)) ?_
              refine S_val rfl rfl (Y_move rfl) ?_
              refine S_val rfl rfl (Y_move rfl) ?_
              refine S_val rfl rfl (Y_leq_f rfl rfl (by omega)) ?_
              refine S_val rfl rfl (Y_pick_t rfl rfl) ?_
              refine S_val rfl rfl (Y_move rfl) ?_
              refine S_val rfl rfl (Y_move rfl) ?_
              refine S_val rfl rfl (Y_geq_t rfl rfl (by omega)) ?_
              refine S_val rfl rfl (Y_move rfl) ?_
              refine S_val rfl rfl (Y_move rfl) ?_
              refine S_val rfl rfl (Y_leq_t rfl rfl (by omega)) ?_
              refine S_val rfl rfl (Y_pick_t rfl rfl) ?_
              refine S_val rfl rfl (Y_pick_f rfl rfl) ?_
              refine S_nil ?_
              refine X_seq ?_
              refine T_cond_true rfl ?_
              refine T_seq ?_
              refine T_region ?_
              refine S_val rfl rfl (Y_assign rfl) ?_
              refine S_nil ?_
              refine X_seq ?_
              refine T_ret ?_
              refine X_seq_ret ?_
              ((first | refine X_fin_ret ?_ | refine X_fin ?_); exact ⟨[_], [], .cons (.tmp rfl) .nil, Emb.nil _, rfl, rfl⟩)
            · rw [if_neg (by omega)]
              rcases (show op = 0 ∨ (12 ≤ op ∧ op ≤ 15) ∨ 30 ≤ op by omega) with h3 | ⟨h3, h4⟩ | h3
              · refine Fn_of (args := [.int .u8 op]) Tryz.func8 rfl Tryz.ntmps8 Tryz.results8 (by simp) ?_
                refine T_seq ?_
                refine T_region ?_
                refine S_val rfl rfl (Y_assign rfl) ?_
                refine S_nil ?_
                refine X_seq ?_
                refine T_seq ?_
                refine T_seq ?_
                refine T_region ?_
                refine S_val rfl rfl (Y_move rfl) ?_
                refine S_val rfl rfl (Y_eql_f rfl rfl (by omega)) ?_
                refine S_val rfl rfl (Y_move rfl) ?_
                refine S_val rfl rfl (Y_move rfl) ?_
                refine S_val rfl rfl (Y_eql_f rfl rfl (by omega)) ?_
                refine S_val rfl rfl (Y_pick_f rfl rfl) ?_
                refine S_nil ?_
                refine X_seq ?_
                refine T_cond_false rfl ?_
                refine T_skip ?_
                refine X_seq ?_
                refine T_seq ?_
                refine T_seq ?_
                refine T_region ?_
                refine S_val rfl rfl (Y_move rfl) ?_
                refine S_val rfl rfl (Y_eql_f rfl rfl (by omega)) ?_
                refine S_val rfl rfl (Y_move rfl) ?_
                refine S_val rfl rfl (Y_move rfl) ?_
                refine S_val rfl rfl (Y_eql_f rfl rfl (by omega)) ?_
                refine S_val rfl rfl (Y_pick_f rfl rfl) ?_
                refine S_nil ?_
                refine X_seq ?_
                refine T_cond_false rfl ?_
                refine T_skip ?_
                refine X_seq ?_
                refine T_seq ?_
                refine T_seq ?_
                refine T_region ?_
                refine S_val rfl rfl (Y_move rfl) ?_
                refine S_val rfl rfl (Y_geq_f rfl rfl (by omega)) ?_
                refine S_val rfl rfl (Y_move rfl) ?_
                refine S_skip rfl rfl ?_
                refine S_skip rfl rfl ?_
                refine S_val rfl rfl (Y_pick_f rfl rfl) ?_
                refine S_val rfl rfl (Y_move rfl) ?_
                refine S_val rfl rfl (Y_move rfl) ?_
                refine S_val rfl rfl (Y_geq_f rfl rfl (by omega)) ?_
                refine S_val rfl rfl (Y_move rfl) ?_
                refine S_skip rfl rfl ?_
                refine S_skip rfl rfl ?_
                refine S_val rfl rfl (Y_pick_f rfl rfl) ?_
                refine S_val rfl rfl (Y_pick_f rfl rfl) ?_
                refine S_nil ?_
                refine X_seq ?_
                refine T_cond_false rfl ?_
                refine T_skip ?_
                refine X_seq ?_
                refine T_seq ?_
                refine T_region ?_
                refine S_val rfl rfl (Y_assign rfl) ?_
                refine S_nil ?_
                refine X_seq ?_
                refine T_ret ?_
                ((first | refine X_fin_ret ?_ | refine X_fin ?_); exact ⟨[_], [], .cons (.tmp rfl) .nil, Emb.nil _, rfl, rfl⟩)
              · refine Fn_of (args := [.int .u8 op]) Tryz.func8 rfl Tryz.ntmps8 Tryz.results8 (by simp) ?_
                refine T_seq ?_
                refine T_region ?_
                refine S_val rfl rfl (Y_assign rfl) ?_
                refine S_nil ?_
                refine X_seq ?_
                refine T_seq ?_
                refine T_seq ?_
                refine T_region ?_
                refine S_val rfl rfl (Y_move rfl) ?_
                refine S_val rfl rfl (Y_eql_f rfl rfl (by omega)) ?_
                refine S_val rfl rfl (Y_move rfl) ?_
                refine S_val rfl rfl (Y_move rfl) ?_
                refine S_val rfl rfl (Y_eql_f rfl rfl (by omega)) ?_
                refine S_val rfl rfl (Y_pick_f rfl rfl) ?_
                refine S_nil ?_
                refine X_seq ?_
                refine T_cond_false rfl ?_
                refine T_skip ?_
                refine X_seq ?_
                refine T_seq ?_
                refine T_seq ?_
                refine T_region ?_
                refine S_val rfl rfl (Y_move rfl) ?_
                refine S_val rfl rfl (Y_eql_f rfl rfl (by omega)) ?_
                refine S_val rfl rfl (Y_move rfl) ?_
                refine S_val rfl rfl (Y_move rfl) ?_
                refine S_val rfl rfl (Y_eql_f rfl rfl (by omega)) ?_
                refine S_val rfl rfl (Y_pick_f rfl rfl) ?_
                refine S_nil ?_
                refine X_seq ?_
                refine T_cond_false rfl ?_
                refine T_skip ?_
                refine X_seq ?_
                refine T_seq ?_
                refine T_seq ?_
                refine T_region ?_
                refine S_val rfl rfl (Y_move rfl) ?_
                refine S_val rfl rfl (Y_geq_t rfl rfl (by omega)) ?_
                refine S_val rfl rfl (Y_move rfl) ?_
                refine S_val rfl rfl (Y_move rfl) ?_
                refine S_val rfl rfl (Y_leq_f rfl rfl (by omega)) ?_
                refine S_val rfl rfl (Y_pick_t rfl rfl) ?_
                refine S_val rfl rfl (Y_move rfl) ?_
                refine S_val rfl rfl (Y_move rfl) ?_
                refine S_val rfl rfl (Y_geq_f rfl rfl (by omega)) ?_
                refine S_val rfl rfl (Y_move rfl) ?_
                refine S_skip rfl rfl ?_
                refine S_skip rfl rfl ?_
                refine S_val rfl rfl (Y_pick_f rfl rfl) ?_
                refine S_val rfl rfl (Y_pick_f rfl rfl) ?_
                refine S_nil ?_
                refine X_seq ?_
                refine T_cond_false rfl ?_
                refine T_skip ?_
                refine X_seq ?_
                refine T_seq ?_
                refine T_region ?_
                refine S_val rfl rfl (Y_assign rfl) ?_
                refine S_nil ?_
                refine X_seq ?_
                refine T_ret ?_
                ((first | refine X_fin_ret ?_ | refine X_fin ?_); exact ⟨[_], [], .cons (.tmp rfl) .nil, Emb.nil _, rfl, rfl⟩)
              · refine Fn_of (args := [.int .u8 op]) Tryz.func8 rfl Tryz.ntmps8 Tryz.results8 (by simp) ?_
                refine T_seq ?_
                refine T_region ?_
                refine S_val rfl rfl (Y_assign rfl) ?_
                refine S_nil ?_
                refine X_seq ?_
                refine T_seq ?_
                refine T_seq ?_
                refine T_region ?_
                refine S_val rfl rfl (Y_move rfl) ?_
                refine S_val rfl rfl (Y_eql_f rfl rfl (by omega)) ?_
                refine S_val rfl rfl (Y_move rfl) ?_
                refine S_val rfl rfl (Y_move rfl) ?_
                refine S_val rfl rfl (Y_eql_f rfl rfl (by omega)) ?_
                refine S_val rfl rfl (Y_pick_f rfl rfl) ?_
                refine S_nil ?_
                refine X_seq ?_
                refine T_cond_false rfl ?_
                refine T_skip ?_
                refine X_seq ?_
                refine T_seq ?_
                refine T_seq ?_
                refine T_region ?_
                refine S_val rfl rfl (Y_move rfl) ?_
                refine S_val rfl rfl (Y_eql_f rfl rfl (by omega)) ?_
                refine S_val rfl rfl (Y_move rfl) ?_
                refine S_val rfl rfl (Y_move rfl) ?_
                refine S_val rfl rfl (Y_eql_f rfl rfl (by omega)) ?_
                refine S_val rfl rfl (Y_pick_f rfl rfl) ?_
                refine S_nil ?_
                refine X_seq ?_
                refine T_cond_false rfl ?_
                refine T_skip ?_
                refine X_seq ?_
                refine T_seq ?_
                refine T_seq ?_
                refine T_region ?_
                refine S_val rfl rfl (Y_move rfl) ?_
                refine S_val rfl rfl (Y_geq_t rfl rfl (by omega)) ?_
                refine S_val rfl rfl (Y_move rfl) ?_
                refine S_val rfl rfl (Y_move rfl) ?_
                refine S_val rfl rfl (Y_leq_f rfl rfl (by omega)) ?_
                refine S_val rfl rfl (Y_pick_t rfl rfl) ?_
                refine S_val rfl rfl (Y_move rfl) ?_
                refine S_val rfl rfl (Y_move rfl) ?_
                refine S_val rfl rfl (Y_geq_t rfl rfl (by omega)) ?_
                refine S_val rfl rfl (Y_move rfl) ?_
                refine S_val rfl rfl (Y_move rfl) ?_
                refine S_val rfl rfl (Y_leq_f rfl rfl (by omega)) ?_
                refine S_val rfl rfl (Y_pick_t rfl rfl) ?_
                refine S_val rfl rfl (Y_pick_f rfl rfl) ?_
                refine S_nil ?_
                refine X_seq ?_
                refine T_cond_false rfl ?_
                refine T_skip ?_
                refine X_seq ?_
                refine T_seq ?_
                refine T_region ?_
                refine S_val rfl rfl (Y_assign rfl) ?_
                refine S_nil ?_
                refine X_seq ?_
                refine T_ret ?_
                ((first | refine X_fin_ret ?_ | refine X_fin ?_); exact ⟨[_], [], .cons (.tmp rfl) .nil, Emb.nil _, rfl, rfl⟩)
theorem d_zero : fillI (List.replicate 32 (0 : Int)) [] = dl 256 32 0 := by rw [dl_zero]; rfl
theorem dl32_inj {x y : Nat} (hx : x < 2 ^ 256) (hy : y < 2 ^ 256) : decide (dl 256 32 x = dl 256 32 y) = decide (x = y) := by
  by_cases h : x = y
  · rw [decide_eq_true h, h]; exact decide_eq_true rfl
  · rw [decide_eq_false h]; exact decide_eq_false fun e => h (dl_inj (b := 256) (n := 32) (by omega) (by exact hx) (by exact hy) e)
theorem rzero_any (a : Nat) (ha : a < 2 ^ 256) (w : World) : Fn Tryz.prog 19 #[D a] w fun v N => v = .bool (decide (a = 0)) ∧ N = [] := by
  have e := dl32_inj ha (show 0 < 2 ^ 256 by omega)
  rw [← d_zero] at e
  refine Fn_of (args := [D a]) Tryz.func19 rfl Tryz.ntmps19 Tryz.results19 (by simp) ?_
  refine T_seq ?_
  refine T_region ?_
  refine S_boxA rfl rfl rfl fun _ => ?_
  refine S_val rfl rfl (Y_assign rfl) ?_
  refine S_nil ?_
  refine X_seq ?_
  refine T_seq ?_
  refine T_region ?_
  refine S_val rfl rfl (Y_loadAI 0 (und rfl) rfl rfl rfl (siz rfl) (dl_length _ _ _)) ?_
  refine S_val rfl rfl (Y_build (und rfl) (siz rfl) (zer rfl) rfl rfl) ?_
  refine S_val rfl rfl (Y_eqlA (eqg rfl) (und rfl) (und rfl) (siz rfl) rfl rfl (dl_length _ _ _) rfl) ?_
  refine S_val rfl rfl (Y_assign rfl) ?_
  refine S_nil ?_
  refine X_seq ?_
  refine T_ret ?_
  ((first | refine X_fin_ret ?_ | refine X_fin ?_); exact ⟨[_], [], .cons (.tmp rfl) .nil, Emb.nil _, by rw [← e]; rfl, rfl⟩)
theorem shN_up (x n : Nat) : shN x n = x * 2 ^ n % 2 ^ 256 := by unfold shN; rw [if_pos (by omega), Int.toNat_natCast]
theorem shN_down {x : Nat} (hx : x < 2 ^ 256) (n : Nat) : shN x (0 - (n : Int)) = x / 2 ^ n := by
  rw [Int.zero_sub]
  by_cases h0 : n = 0
  · subst h0
    unfold shN
    rw [if_pos (by omega)]
    simp only [Int.natCast_zero, Int.neg_zero, Int.toNat_zero, Nat.pow_zero, Nat.mul_one, Nat.div_one]
    exact Nat.mod_eq_of_lt hx
  · unfold shN
    rw [if_neg (by omega), Int.neg_neg, Int.toNat_natCast]
theorem lt_d32 {x : Nat} (hx : x < 2 ^ 256) : x < 256 ^ 32 := hx
theorem low_1 (a b c : Nat) (ha : a < 2 ^ 256) (hb : b < 2 ^ 256) (hc : c < 2 ^ 256) (w : World) : Fn Tryz.prog 13 #[.int .u8 1, W a, W b, W c] w fun v N => v = W ((a + b) % 2 ^ 256) ∧ N = [] := by
  have ct := radd_any a b
  generalize hz : (a + b) % 2 ^ 256 = z at *
  refine Fn_of (args := [.int .u8 1, W a, W b, W c]) Tryz.func13 rfl Tryz.ntmps13 Tryz.results13 (by simp) ?_
  refine T_seq ?_
  refine T_region ?_
  refine S_boxA rfl rfl rfl fun _ => ?_
  refine S_boxA rfl rfl rfl fun _ => ?_
  refine S_boxA rfl rfl rfl fun _ => ?_
  refine S_allocA (zer rfl) rfl rfl fun _ => ?_
  refine S_nil ?_
  refine X_seq ?_
  refine T_seq ?_
  refine T_region ?_
  refine S_val rfl rfl (Y_loadAI 0 (und rfl) rfl rfl rfl (siz rfl) (dl_length _ _ _)) ?_
  refine S_callV rfl rfl (bod rfl) (fun w hs => rof_any a _) rfl rfl ?_
  refine S_allocA (zer rfl) rfl rfl fun _ => ?_
  refine S_storeAI 4 (siz rfl) rfl rfl rfl rfl (dl_length _ _ _) rfl ?_
  refine S_nil ?_
  refine X_seq ?_
  refine T_seq ?_
  refine T_region ?_
  refine S_val rfl rfl (Y_loadAI 1 (und rfl) rfl rfl rfl (siz rfl) (dl_length _ _ _)) ?_
  refine S_callV rfl rfl (bod rfl) (fun w hs => rof_any b _) rfl rfl ?_
  refine S_allocA (zer rfl) rfl rfl fun _ => ?_
  refine S_storeAI 5 (siz rfl) rfl rfl rfl rfl (dl_length _ _ _) rfl ?_
  refine S_nil ?_
  refine X_seq ?_
  refine T_seq ?_
  refine T_region ?_
  refine S_val rfl rfl (Y_loadAI 0 (und rfl) rfl rfl rfl (siz rfl) (dl_length _ _ _)) ?_
  refine S_callR _ rfl rfl (bod rfl) (fun w hs => nof_any a _) rfl rfl fun _ => ?_
  refine S_val rfl rfl (Y_assign rfl) ?_
  refine S_nil ?_
  refine X_seq ?_
  refine T_seq ?_
  refine T_region ?_
  refine S_val rfl rfl (Y_loadAI 1 (und rfl) rfl rfl rfl (siz rfl) (dl_length _ _ _)) ?_
  refine S_callR _ rfl rfl (bod rfl) (fun w hs => nof_any b _) rfl rfl fun _ => ?_
  refine S_val rfl rfl (Y_assign rfl) ?_
  refine S_nil ?_
  refine X_seq ?_
  refine T_seq ?_
  refine T_seq ?_
  refine T_region ?_
  refine S_val rfl rfl (Y_move rfl) ?_
  refine S_nil ?_
  refine X_seq ?_
  refine T_block ?_
  refine T_seq ?_
  refine T_region ?_
  refine S_val rfl rfl (Y_eql_t rfl rfl (by decide)) ?_
  refine S_val rfl rfl (Y_assign rfl) ?_
  refine S_nil ?_
  refine X_seq ?_
  refine T_cond_true rfl ?_
  refine T_seq ?_
  refine T_region ?_
  refine S_val rfl rfl (Y_loadAI 4 (und rfl) rfl rfl rfl (siz rfl) (dl_length _ _ _)) ?_
  refine S_val rfl rfl (Y_loadAI 5 (und rfl) rfl rfl rfl (siz rfl) (dl_length _ _ _)) ?_
  refine S_callV rfl rfl (bod rfl) (fun w hs => ct _) rfl rfl ?_
  skip
  refine S_callV rfl rfl (bod rfl) (fun w hs => rword_any z _) rfl rfl ?_
  refine S_storeAI 3 (siz rfl) rfl rfl rfl rfl (dl_length _ _ _) rfl ?_
  refine S_nil ?_
  refine X_seq ?_
  refine T_ret ?_
  refine X_blk_ret ?_
  refine X_seq_ret ?_
  ((first | refine X_fin_ret ?_ | refine X_fin ?_); exact ⟨[_], [], .cons (.agg 3 rfl (und rfl) rfl rfl (siz rfl)) .nil, Emb.nil _, rfl, rfl⟩)
theorem low_2 (a b c : Nat) (ha : a < 2 ^ 256) (hb : b < 2 ^ 256) (hc : c < 2 ^ 256) (w : World) : Fn Tryz.prog 13 #[.int .u8 2, W a, W b, W c] w fun v N => v = W (a * b % 2 ^ 256) ∧ N = [] := by
  have ct := rmul_any a b
  generalize hz : a * b % 2 ^ 256 = z at *
  refine Fn_of (args := [.int .u8 2, W a, W b, W c]) Tryz.func13 rfl Tryz.ntmps13 Tryz.results13 (by simp) ?_
  refine T_seq ?_
  refine T_region ?_
  refine S_boxA rfl rfl rfl fun _ => ?_
  refine S_boxA rfl rfl rfl fun _ => ?_
  refine S_boxA rfl rfl rfl fun _ => ?_
  refine S_allocA (zer rfl) rfl rfl fun _ => ?_
  refine S_nil ?_
  refine X_seq ?_
  refine T_seq ?_
  refine T_region ?_
  refine S_val rfl rfl (Y_loadAI 0 (und rfl) rfl rfl rfl (siz rfl) (dl_length _ _ _)) ?_
  refine S_callV rfl rfl (bod rfl) (fun w hs => rof_any a _) rfl rfl ?_
  refine S_allocA (zer rfl) rfl rfl fun _ => ?_
  refine S_storeAI 4 (siz rfl) rfl rfl rfl rfl (dl_length _ _ _) rfl ?_
  refine S_nil ?_
  refine X_seq ?_
  refine T_seq ?_
  refine T_region ?_
  refine S_val rfl rfl (Y_loadAI 1 (und rfl) rfl rfl rfl (siz rfl) (dl_length _ _ _)) ?_
  refine S_callV rfl rfl (bod rfl) (fun w hs => rof_any b _) rfl rfl ?_
  refine S_allocA (zer rfl) rfl rfl fun _ => ?_
  refine S_storeAI 5 (siz rfl) rfl rfl rfl rfl (dl_length _ _ _) rfl ?_
  refine S_nil ?_
  refine X_seq ?_
  refine T_seq ?_
  refine T_region ?_
  refine S_val rfl rfl (Y_loadAI 0 (und rfl) rfl rfl rfl (siz rfl) (dl_length _ _ _)) ?_
  refine S_callR _ rfl rfl (bod rfl) (fun w hs => nof_any a _) rfl rfl fun _ => ?_
  refine S_val rfl rfl (Y_assign rfl) ?_
  refine S_nil ?_
  refine X_seq ?_
  refine T_seq ?_
  refine T_region ?_
  refine S_val rfl rfl (Y_loadAI 1 (und rfl) rfl rfl rfl (siz rfl) (dl_length _ _ _)) ?_
  refine S_callR _ rfl rfl (bod rfl) (fun w hs => nof_any b _) rfl rfl fun _ => ?_
  refine S_val rfl rfl (Y_assign rfl) ?_
  refine S_nil ?_
  refine X_seq ?_
  refine T_seq ?_
  refine T_seq ?_
  refine T_region ?_
  refine S_val rfl rfl (Y_move rfl) ?_
  refine S_nil ?_
  refine X_seq ?_
  refine T_block ?_
  refine T_seq ?_
  refine T_region ?_
  refine S_val rfl rfl (Y_eql_f rfl rfl (by decide)) ?_
  refine S_val rfl rfl (Y_assign rfl) ?_
  refine S_nil ?_
  refine X_seq ?_
  refine T_cond_false rfl ?_
  refine T_seq ?_
  refine T_region ?_
  refine S_val rfl rfl (Y_eql_t rfl rfl (by decide)) ?_
  refine S_val rfl rfl (Y_assign rfl) ?_
  refine S_nil ?_
  refine X_seq ?_
  refine T_cond_true rfl ?_
  refine T_seq ?_
  refine T_region ?_
  refine S_val rfl rfl (Y_loadAI 4 (und rfl) rfl rfl rfl (siz rfl) (dl_length _ _ _)) ?_
  refine S_val rfl rfl (Y_loadAI 5 (und rfl) rfl rfl rfl (siz rfl) (dl_length _ _ _)) ?_
  refine S_callV rfl rfl (bod rfl) (fun w hs => ct _) rfl rfl ?_
  skip
  refine S_callV rfl rfl (bod rfl) (fun w hs => rword_any z _) rfl rfl ?_
  refine S_storeAI 3 (siz rfl) rfl rfl rfl rfl (dl_length _ _ _) rfl ?_
  refine S_nil ?_
  refine X_seq ?_
  refine T_ret ?_
  refine X_blk_ret ?_
  refine X_seq_ret ?_
  ((first | refine X_fin_ret ?_ | refine X_fin ?_); exact ⟨[_], [], .cons (.agg 3 rfl (und rfl) rfl rfl (siz rfl)) .nil, Emb.nil _, rfl, rfl⟩)
theorem low_3 (a b c : Nat) (ha : a < 2 ^ 256) (hb : b < 2 ^ 256) (hc : c < 2 ^ 256) (w : World) : Fn Tryz.prog 13 #[.int .u8 3, W a, W b, W c] w fun v N => v = W ((a + 2 ^ 256 - b) % 2 ^ 256) ∧ N = [] := by
  have ct := rsub_any a b hb
  generalize hz : (a + 2 ^ 256 - b) % 2 ^ 256 = z at *
  refine Fn_of (args := [.int .u8 3, W a, W b, W c]) Tryz.func13 rfl Tryz.ntmps13 Tryz.results13 (by simp) ?_
  refine T_seq ?_
  refine T_region ?_
  refine S_boxA rfl rfl rfl fun _ => ?_
  refine S_boxA rfl rfl rfl fun _ => ?_
  refine S_boxA rfl rfl rfl fun _ => ?_
  refine S_allocA (zer rfl) rfl rfl fun _ => ?_
  refine S_nil ?_
  refine X_seq ?_
  refine T_seq ?_
  refine T_region ?_
  refine S_val rfl rfl (Y_loadAI 0 (und rfl) rfl rfl rfl (siz rfl) (dl_length _ _ _)) ?_
  refine S_callV rfl rfl (bod rfl) (fun w hs => rof_any a _) rfl rfl ?_
  refine S_allocA (zer rfl) rfl rfl fun _ => ?_
  refine S_storeAI 4 (siz rfl) rfl rfl rfl rfl (dl_length _ _ _) rfl ?_
  refine S_nil ?_
  refine X_seq ?_
  refine T_seq ?_
  refine T_region ?_
  refine S_val rfl rfl (Y_loadAI 1 (und rfl) rfl rfl rfl (siz rfl) (dl_length _ _ _)) ?_
  refine S_callV rfl rfl (bod rfl) (fun w hs => rof_any b _) rfl rfl ?_
  refine S_allocA (zer rfl) rfl rfl fun _ => ?_
  refine S_storeAI 5 (siz rfl) rfl rfl rfl rfl (dl_length _ _ _) rfl ?_
  refine S_nil ?_
  refine X_seq ?_
  refine T_seq ?_
  refine T_region ?_
  refine S_val rfl rfl (Y_loadAI 0 (und rfl) rfl rfl rfl (siz rfl) (dl_length _ _ _)) ?_
  refine S_callR _ rfl rfl (bod rfl) (fun w hs => nof_any a _) rfl rfl fun _ => ?_
  refine S_val rfl rfl (Y_assign rfl) ?_
  refine S_nil ?_
  refine X_seq ?_
  refine T_seq ?_
  refine T_region ?_
  refine S_val rfl rfl (Y_loadAI 1 (und rfl) rfl rfl rfl (siz rfl) (dl_length _ _ _)) ?_
  refine S_callR _ rfl rfl (bod rfl) (fun w hs => nof_any b _) rfl rfl fun _ => ?_
  refine S_val rfl rfl (Y_assign rfl) ?_
  refine S_nil ?_
  refine X_seq ?_
  refine T_seq ?_
  refine T_seq ?_
  refine T_region ?_
  refine S_val rfl rfl (Y_move rfl) ?_
  refine S_nil ?_
  refine X_seq ?_
  refine T_block ?_
  refine T_seq ?_
  refine T_region ?_
  refine S_val rfl rfl (Y_eql_f rfl rfl (by decide)) ?_
  refine S_val rfl rfl (Y_assign rfl) ?_
  refine S_nil ?_
  refine X_seq ?_
  refine T_cond_false rfl ?_
  refine T_seq ?_
  refine T_region ?_
  refine S_val rfl rfl (Y_eql_f rfl rfl (by decide)) ?_
  refine S_val rfl rfl (Y_assign rfl) ?_
  refine S_nil ?_
  refine X_seq ?_
  refine T_cond_false rfl ?_
  refine T_seq ?_
  refine T_region ?_
  refine S_val rfl rfl (Y_eql_t rfl rfl (by decide)) ?_
  refine S_val rfl rfl (Y_assign rfl) ?_
  refine S_nil ?_
  refine X_seq ?_
  refine T_cond_true rfl ?_
  refine T_seq ?_
  refine T_region ?_
  refine S_val rfl rfl (Y_loadAI 4 (und rfl) rfl rfl rfl (siz rfl) (dl_length _ _ _)) ?_
  refine S_val rfl rfl (Y_loadAI 5 (und rfl) rfl rfl rfl (siz rfl) (dl_length _ _ _)) ?_
  refine S_callV rfl rfl (bod rfl) (fun w hs => ct _) rfl rfl ?_
  skip
  refine S_callV rfl rfl (bod rfl) (fun w hs => rword_any z _) rfl rfl ?_
  refine S_storeAI 3 (siz rfl) rfl rfl rfl rfl (dl_length _ _ _) rfl ?_
  refine S_nil ?_
  refine X_seq ?_
  refine T_ret ?_
  refine X_blk_ret ?_
  refine X_seq_ret ?_
  ((first | refine X_fin_ret ?_ | refine X_fin ?_); exact ⟨[_], [], .cons (.agg 3 rfl (und rfl) rfl rfl (siz rfl)) .nil, Emb.nil _, rfl, rfl⟩)
theorem low_4 (a b c : Nat) (ha : a < 2 ^ 256) (hb : b < 2 ^ 256) (hc : c < 2 ^ 256) (w : World) : Fn Tryz.prog 13 #[.int .u8 4, W a, W b, W c] w fun v N => v = W (a / b) ∧ N = [] := by
  have hq : a / b < 256 ^ 32 := Nat.lt_of_le_of_lt (Nat.div_le_self _ _) (lt_d32 ha)
  have dv := fun v u w h h' => ndiv_any a b 32 32 (lt_d32 ha) (lt_d32 hb) (by omega) (by omega) v u w h h'
  refine Fn_of (args := [.int .u8 4, W a, W b, W c]) Tryz.func13 rfl Tryz.ntmps13 Tryz.results13 (by simp) ?_
  refine T_seq ?_
  refine T_region ?_
  refine S_boxA rfl rfl rfl fun _ => ?_
  refine S_boxA rfl rfl rfl fun _ => ?_
  refine S_boxA rfl rfl rfl fun _ => ?_
  refine S_allocA (zer rfl) rfl rfl fun _ => ?_
  refine S_nil ?_
  refine X_seq ?_
  refine T_seq ?_
  refine T_region ?_
  refine S_val rfl rfl (Y_loadAI 0 (und rfl) rfl rfl rfl (siz rfl) (dl_length _ _ _)) ?_
  refine S_callV rfl rfl (bod rfl) (fun w hs => rof_any a _) rfl rfl ?_
  refine S_allocA (zer rfl) rfl rfl fun _ => ?_
  refine S_storeAI 4 (siz rfl) rfl rfl rfl rfl (dl_length _ _ _) rfl ?_
  refine S_nil ?_
  refine X_seq ?_
  refine T_seq ?_
  refine T_region ?_
  refine S_val rfl rfl (Y_loadAI 1 (und rfl) rfl rfl rfl (siz rfl) (dl_length _ _ _)) ?_
  refine S_callV rfl rfl (bod rfl) (fun w hs => rof_any b _) rfl rfl ?_
  refine S_allocA (zer rfl) rfl rfl fun _ => ?_
  refine S_storeAI 5 (siz rfl) rfl rfl rfl rfl (dl_length _ _ _) rfl ?_
  refine S_nil ?_
  refine X_seq ?_
  refine T_seq ?_
  refine T_region ?_
  refine S_val rfl rfl (Y_loadAI 0 (und rfl) rfl rfl rfl (siz rfl) (dl_length _ _ _)) ?_
  refine S_callR _ rfl rfl (bod rfl) (fun w hs => nof_any a _) rfl rfl fun _ => ?_
  refine S_val rfl rfl (Y_assign rfl) ?_
  refine S_nil ?_
  refine X_seq ?_
  refine T_seq ?_
  refine T_region ?_
  refine S_val rfl rfl (Y_loadAI 1 (und rfl) rfl rfl rfl (siz rfl) (dl_length _ _ _)) ?_
  refine S_callR _ rfl rfl (bod rfl) (fun w hs => nof_any b _) rfl rfl fun _ => ?_
  refine S_val rfl rfl (Y_assign rfl) ?_
  refine S_nil ?_
  refine X_seq ?_
  refine T_seq ?_
  refine T_seq ?_
  refine T_region ?_
  refine S_val rfl rfl (Y_move rfl) ?_
  refine S_nil ?_
  refine X_seq ?_
  refine T_block ?_
  refine T_seq ?_
  refine T_region ?_
  refine S_val rfl rfl (Y_eql_f rfl rfl (by decide)) ?_
  refine S_val rfl rfl (Y_assign rfl) ?_
  refine S_nil ?_
  refine X_seq ?_
  refine T_cond_false rfl ?_
  refine T_seq ?_
  refine T_region ?_
  refine S_val rfl rfl (Y_eql_f rfl rfl (by decide)) ?_
  refine S_val rfl rfl (Y_assign rfl) ?_
  refine S_nil ?_
  refine X_seq ?_
  refine T_cond_false rfl ?_
  refine T_seq ?_
  refine T_region ?_
  refine S_val rfl rfl (Y_eql_f rfl rfl (by decide)) ?_
  refine S_val rfl rfl (Y_assign rfl) ?_
  refine S_nil ?_
  refine X_seq ?_
  refine T_cond_false rfl ?_
  refine T_seq ?_
  refine T_region ?_
  refine S_val rfl rfl (Y_eql_t rfl rfl (by decide)) ?_
  refine S_val rfl rfl (Y_assign rfl) ?_
  refine S_nil ?_
  refine X_seq ?_
  refine T_cond_true rfl ?_
  refine T_seq ?_
  refine T_region ?_
  refine S_val rfl rfl (Y_move rfl) ?_
  refine S_val rfl rfl (Y_move rfl) ?_
  refine S_call _ rfl rfl (bod rfl) (fun w hs => dv _ _ _ (by first | exact hs.rowRd 0 rfl | exact hs.rowRd 1 rfl | exact hs.rowRd 2 rfl | exact hs.rowRd 3 rfl | exact hs.rowRd 4 rfl | exact hs.rowRd 5 rfl | exact hs.rowRd 6 rfl | exact hs.rowRd 7 rfl | exact hs.rowRd 8 rfl | exact hs.rowRd 9 rfl | exact hs.rowRd 10 rfl | exact hs.rowRd 11 rfl | exact hs.rowRd 12 rfl | exact hs.rowRd 13 rfl | exact Rd.st (by assumption) hs) (hs.rowRd 7 rfl)) rfl rfl ?_
  rintro _ _ ⟨j, r, v1, v2, hr, hrj, hj, rfl, rfl⟩
  have hr' : r = remN a b := hr
  clear dv hr hr'
  refine S_val rfl rfl (Y_move rfl) ?_
  refine S_val rfl rfl (Y_extract rfl rfl) ?_
  refine S_val rfl rfl (Y_extract rfl rfl) ?_
  refine S_val rfl rfl (Y_assign rfl) ?_
  refine S_val rfl rfl (Y_assign rfl) ?_
  refine S_nil ?_
  refine X_seq ?_
  refine T_seq ?_
  refine T_region ?_
  refine S_val rfl rfl (Y_move rfl) ?_
  refine S_callV rfl rfl (bod rfl) (fun w hs => nword_any (a / b) 32 hq _ _ (by first | exact hs.rowRd 0 rfl | exact hs.rowRd 1 rfl | exact hs.rowRd 2 rfl | exact hs.rowRd 3 rfl | exact hs.rowRd 4 rfl | exact hs.rowRd 5 rfl | exact hs.rowRd 6 rfl | exact hs.rowRd 7 rfl | exact hs.rowRd 8 rfl | exact hs.rowRd 9 rfl | exact hs.rowRd 10 rfl | exact hs.rowRd 11 rfl | exact hs.rowRd 12 rfl | exact hs.rowRd 13 rfl | exact Rd.st (by assumption) hs)) rfl rfl ?_
  refine S_storeAI 3 (siz rfl) rfl rfl rfl rfl (dl_length _ _ _) rfl ?_
  refine S_nil ?_
  refine X_seq ?_
  refine T_ret ?_
  refine X_blk_ret ?_
  refine X_seq_ret ?_
  ((first | refine X_fin_ret ?_ | refine X_fin ?_); exact ⟨[_], [], .cons (.agg 3 rfl (und rfl) rfl rfl (siz rfl)) .nil, Emb.nil _, rfl, rfl⟩)
theorem low_6 (a b c : Nat) (ha : a < 2 ^ 256) (hb : b < 2 ^ 256) (hc : c < 2 ^ 256) (w : World) : Fn Tryz.prog 13 #[.int .u8 6, W a, W b, W c] w fun v N => v = W (remN a b) ∧ N = [] := by
  have hq : a / b < 256 ^ 32 := Nat.lt_of_le_of_lt (Nat.div_le_self _ _) (lt_d32 ha)
  have dv := fun v u w h h' => ndiv_any a b 32 32 (lt_d32 ha) (lt_d32 hb) (by omega) (by omega) v u w h h'
  refine Fn_of (args := [.int .u8 6, W a, W b, W c]) Tryz.func13 rfl Tryz.ntmps13 Tryz.results13 (by simp) ?_
  refine T_seq ?_
  refine T_region ?_
  refine S_boxA rfl rfl rfl fun _ => ?_
  refine S_boxA rfl rfl rfl fun _ => ?_
  refine S_boxA rfl rfl rfl fun _ => ?_
  refine S_allocA (zer rfl) rfl rfl fun _ => ?_
  refine S_nil ?_
  refine X_seq ?_
  refine T_seq ?_
  refine T_region ?_
  refine S_val rfl rfl (Y_loadAI 0 (und rfl) rfl rfl rfl (siz rfl) (dl_length _ _ _)) ?_
  refine S_callV rfl rfl (bod rfl) (fun w hs => rof_any a _) rfl rfl ?_
  refine S_allocA (zer rfl) rfl rfl fun _ => ?_
  refine S_storeAI 4 (siz rfl) rfl rfl rfl rfl (dl_length _ _ _) rfl ?_
  refine S_nil ?_
  refine X_seq ?_
  refine T_seq ?_
  refine T_region ?_
  refine S_val rfl rfl (Y_loadAI 1 (und rfl) rfl rfl rfl (siz rfl) (dl_length _ _ _)) ?_
  refine S_callV rfl rfl (bod rfl) (fun w hs => rof_any b _) rfl rfl ?_
  refine S_allocA (zer rfl) rfl rfl fun _ => ?_
  refine S_storeAI 5 (siz rfl) rfl rfl rfl rfl (dl_length _ _ _) rfl ?_
  refine S_nil ?_
  refine X_seq ?_
  refine T_seq ?_
  refine T_region ?_
  refine S_val rfl rfl (Y_loadAI 0 (und rfl) rfl rfl rfl (siz rfl) (dl_length _ _ _)) ?_
  refine S_callR _ rfl rfl (bod rfl) (fun w hs => nof_any a _) rfl rfl fun _ => ?_
  refine S_val rfl rfl (Y_assign rfl) ?_
  refine S_nil ?_
  refine X_seq ?_
  refine T_seq ?_
  refine T_region ?_
  refine S_val rfl rfl (Y_loadAI 1 (und rfl) rfl rfl rfl (siz rfl) (dl_length _ _ _)) ?_
  refine S_callR _ rfl rfl (bod rfl) (fun w hs => nof_any b _) rfl rfl fun _ => ?_
  refine S_val rfl rfl (Y_assign rfl) ?_
  refine S_nil ?_
  refine X_seq ?_
  refine T_seq ?_
  refine T_seq ?_
  refine T_region ?_
  refine S_val rfl rfl (Y_move rfl) ?_
  refine S_nil ?_
  refine X_seq ?_
  refine T_block ?_
  refine T_seq ?_
  refine T_region ?_
  refine S_val rfl rfl (Y_eql_f rfl rfl (by decide)) ?_
  refine S_val rfl rfl (Y_assign rfl) ?_
  refine S_nil ?_
  refine X_seq ?_
  refine T_cond_false rfl ?_
  refine T_seq ?_
  refine T_region ?_
  refine S_val rfl rfl (Y_eql_f rfl rfl (by decide)) ?_
  refine S_val rfl rfl (Y_assign rfl) ?_
  refine S_nil ?_
  refine X_seq ?_
  refine T_cond_false rfl ?_
  refine T_seq ?_
  refine T_region ?_
  refine S_val rfl rfl (Y_eql_f rfl rfl (by decide)) ?_
  refine S_val rfl rfl (Y_assign rfl) ?_
  refine S_nil ?_
  refine X_seq ?_
  refine T_cond_false rfl ?_
  refine T_seq ?_
  refine T_region ?_
  refine S_val rfl rfl (Y_eql_f rfl rfl (by decide)) ?_
  refine S_val rfl rfl (Y_assign rfl) ?_
  refine S_nil ?_
  refine X_seq ?_
  refine T_cond_false rfl ?_
  refine T_seq ?_
  refine T_region ?_
  refine S_val rfl rfl (Y_eql_f rfl rfl (by decide)) ?_
  refine S_val rfl rfl (Y_assign rfl) ?_
  refine S_nil ?_
  refine X_seq ?_
  refine T_cond_false rfl ?_
  refine T_seq ?_
  refine T_region ?_
  refine S_val rfl rfl (Y_eql_t rfl rfl (by decide)) ?_
  refine S_val rfl rfl (Y_assign rfl) ?_
  refine S_nil ?_
  refine X_seq ?_
  refine T_cond_true rfl ?_
  refine T_seq ?_
  refine T_region ?_
  refine S_val rfl rfl (Y_move rfl) ?_
  refine S_val rfl rfl (Y_move rfl) ?_
  refine S_call _ rfl rfl (bod rfl) (fun w hs => dv _ _ _ (by first | exact hs.rowRd 0 rfl | exact hs.rowRd 1 rfl | exact hs.rowRd 2 rfl | exact hs.rowRd 3 rfl | exact hs.rowRd 4 rfl | exact hs.rowRd 5 rfl | exact hs.rowRd 6 rfl | exact hs.rowRd 7 rfl | exact hs.rowRd 8 rfl | exact hs.rowRd 9 rfl | exact hs.rowRd 10 rfl | exact hs.rowRd 11 rfl | exact hs.rowRd 12 rfl | exact hs.rowRd 13 rfl | exact Rd.st (by assumption) hs) (hs.rowRd 7 rfl)) rfl rfl ?_
  rintro _ _ ⟨j, r, v1, v2, hr, hrj, hj, rfl, rfl⟩
  have hr' : r = remN a b := hr
  subst hr'
  clear dv hr
  refine S_val rfl rfl (Y_move rfl) ?_
  refine S_val rfl rfl (Y_extract rfl rfl) ?_
  refine S_val rfl rfl (Y_extract rfl rfl) ?_
  refine S_val rfl rfl (Y_assign rfl) ?_
  refine S_val rfl rfl (Y_assign rfl) ?_
  refine S_nil ?_
  refine X_seq ?_
  refine T_seq ?_
  refine T_region ?_
  refine S_val rfl rfl (Y_move rfl) ?_
  refine S_callV rfl rfl (bod rfl) (fun w hs => nword_any (remN a b) j hrj _ _ (by first | exact hs.rowRd 0 rfl | exact hs.rowRd 1 rfl | exact hs.rowRd 2 rfl | exact hs.rowRd 3 rfl | exact hs.rowRd 4 rfl | exact hs.rowRd 5 rfl | exact hs.rowRd 6 rfl | exact hs.rowRd 7 rfl | exact hs.rowRd 8 rfl | exact hs.rowRd 9 rfl | exact hs.rowRd 10 rfl | exact hs.rowRd 11 rfl | exact hs.rowRd 12 rfl | exact hs.rowRd 13 rfl | exact Rd.st (by assumption) hs)) rfl rfl ?_
  refine S_storeAI 3 (siz rfl) rfl rfl rfl rfl (dl_length _ _ _) rfl ?_
  refine S_nil ?_
  refine X_seq ?_
  refine T_ret ?_
  refine X_blk_ret ?_
  refine X_seq_ret ?_
  ((first | refine X_fin_ret ?_ | refine X_fin ?_); exact ⟨[_], [], .cons (.agg 3 rfl (und rfl) rfl rfl (siz rfl)) .nil, Emb.nil _, rfl, rfl⟩)
theorem low_5 (a b c : Nat) (ha : a < 2 ^ 256) (hb : b < 2 ^ 256) (hc : c < 2 ^ 256) (w : World) : Fn Tryz.prog 13 #[.int .u8 5, W a, W b, W c] w fun v N => v = W (sdq (sgn a) (sgn b) (absN a / absN b)) ∧ N = [] := by
  have ct := rdiv3_any a b ha hb
  generalize sdq (sgn a) (sgn b) (absN a / absN b) = q at *
  generalize sdr (sgn a) (remN (absN a) (absN b)) = r at *
  refine Fn_of (args := [.int .u8 5, W a, W b, W c]) Tryz.func13 rfl Tryz.ntmps13 Tryz.results13 (by simp) ?_
  refine T_seq ?_
  refine T_region ?_
  refine S_boxA rfl rfl rfl fun _ => ?_
  refine S_boxA rfl rfl rfl fun _ => ?_
  refine S_boxA rfl rfl rfl fun _ => ?_
  refine S_allocA (zer rfl) rfl rfl fun _ => ?_
  refine S_nil ?_
  refine X_seq ?_
  refine T_seq ?_
  refine T_region ?_
  refine S_val rfl rfl (Y_loadAI 0 (und rfl) rfl rfl rfl (siz rfl) (dl_length _ _ _)) ?_
  refine S_callV rfl rfl (bod rfl) (fun w hs => rof_any a _) rfl rfl ?_
  refine S_allocA (zer rfl) rfl rfl fun _ => ?_
  refine S_storeAI 4 (siz rfl) rfl rfl rfl rfl (dl_length _ _ _) rfl ?_
  refine S_nil ?_
  refine X_seq ?_
  refine T_seq ?_
  refine T_region ?_
  refine S_val rfl rfl (Y_loadAI 1 (und rfl) rfl rfl rfl (siz rfl) (dl_length _ _ _)) ?_
  refine S_callV rfl rfl (bod rfl) (fun w hs => rof_any b _) rfl rfl ?_
  refine S_allocA (zer rfl) rfl rfl fun _ => ?_
  refine S_storeAI 5 (siz rfl) rfl rfl rfl rfl (dl_length _ _ _) rfl ?_
  refine S_nil ?_
  refine X_seq ?_
  refine T_seq ?_
  refine T_region ?_
  refine S_val rfl rfl (Y_loadAI 0 (und rfl) rfl rfl rfl (siz rfl) (dl_length _ _ _)) ?_
  refine S_callR _ rfl rfl (bod rfl) (fun w hs => nof_any a _) rfl rfl fun _ => ?_
  refine S_val rfl rfl (Y_assign rfl) ?_
  refine S_nil ?_
  refine X_seq ?_
  refine T_seq ?_
  refine T_region ?_
  refine S_val rfl rfl (Y_loadAI 1 (und rfl) rfl rfl rfl (siz rfl) (dl_length _ _ _)) ?_
  refine S_callR _ rfl rfl (bod rfl) (fun w hs => nof_any b _) rfl rfl fun _ => ?_
  refine S_val rfl rfl (Y_assign rfl) ?_
  refine S_nil ?_
  refine X_seq ?_
  refine T_seq ?_
  refine T_seq ?_
  refine T_region ?_
  refine S_val rfl rfl (Y_move rfl) ?_
  refine S_nil ?_
  refine X_seq ?_
  refine T_block ?_
  refine T_seq ?_
  refine T_region ?_
  refine S_val rfl rfl (Y_eql_f rfl rfl (by decide)) ?_
  refine S_val rfl rfl (Y_assign rfl) ?_
  refine S_nil ?_
  refine X_seq ?_
  refine T_cond_false rfl ?_
  refine T_seq ?_
  refine T_region ?_
  refine S_val rfl rfl (Y_eql_f rfl rfl (by decide)) ?_
  refine S_val rfl rfl (Y_assign rfl) ?_
  refine S_nil ?_
  refine X_seq ?_
  refine T_cond_false rfl ?_
  refine T_seq ?_
  refine T_region ?_
  refine S_val rfl rfl (Y_eql_f rfl rfl (by decide)) ?_
  refine S_val rfl rfl (Y_assign rfl) ?_
  refine S_nil ?_
  refine X_seq ?_
  refine T_cond_false rfl ?_
  refine T_seq ?_
  refine T_region ?_
  refine S_val rfl rfl (Y_eql_f rfl rfl (by decide)) ?_
  refine S_val rfl rfl (Y_assign rfl) ?_
  refine S_nil ?_
  refine X_seq ?_
  refine T_cond_false rfl ?_
  refine T_seq ?_
  refine T_region ?_
  refine S_val rfl rfl (Y_eql_t rfl rfl (by decide)) ?_
  refine S_val rfl rfl (Y_assign rfl) ?_
  refine S_nil ?_
  refine X_seq ?_
  refine T_cond_true rfl ?_
  refine T_seq ?_
  refine T_region ?_
  refine S_val rfl rfl (Y_loadAI 0 (und rfl) rfl rfl rfl (siz rfl) (dl_length _ _ _)) ?_
  refine S_val rfl rfl (Y_loadAI 1 (und rfl) rfl rfl rfl (siz rfl) (dl_length _ _ _)) ?_
  refine S_callV rfl rfl (bod rfl) (fun w hs => ct _) rfl rfl ?_
  refine S_val rfl rfl (Y_move rfl) ?_
  refine S_val rfl rfl (Y_extract rfl rfl) ?_
  refine S_val rfl rfl (Y_extract rfl rfl) ?_
  refine S_allocA (zer rfl) rfl rfl fun _ => ?_
  refine S_allocA (zer rfl) rfl rfl fun _ => ?_
  refine S_storeAI 8 (siz rfl) rfl rfl rfl rfl (dl_length _ _ _) rfl ?_
  refine S_storeAI 9 (siz rfl) rfl rfl rfl rfl (dl_length _ _ _) rfl ?_
  refine S_nil ?_
  refine X_seq ?_
  refine T_seq ?_
  refine T_region ?_
  refine S_val rfl rfl (Y_loadAI 8 (und rfl) rfl rfl rfl (siz rfl) (dl_length _ _ _)) ?_
  refine S_storeAI 3 (siz rfl) rfl rfl rfl rfl (dl_length _ _ _) rfl ?_
  refine S_nil ?_
  refine X_seq ?_
  refine T_ret ?_
  refine X_blk_ret ?_
  refine X_seq_ret ?_
  ((first | refine X_fin_ret ?_ | refine X_fin ?_); exact ⟨[_], [], .cons (.agg 3 rfl (und rfl) rfl rfl (siz rfl)) .nil, Emb.nil _, rfl, rfl⟩)
theorem low_7 (a b c : Nat) (ha : a < 2 ^ 256) (hb : b < 2 ^ 256) (hc : c < 2 ^ 256) (w : World) : Fn Tryz.prog 13 #[.int .u8 7, W a, W b, W c] w fun v N => v = W (sdr (sgn a) (remN (absN a) (absN b))) ∧ N = [] := by
  have ct := rdiv3_any a b ha hb
  generalize sdq (sgn a) (sgn b) (absN a / absN b) = q at *
  generalize sdr (sgn a) (remN (absN a) (absN b)) = r at *
  refine Fn_of (args := [.int .u8 7, W a, W b, W c]) Tryz.func13 rfl Tryz.ntmps13 Tryz.results13 (by simp) ?_
  refine T_seq ?_
  refine T_region ?_
  refine S_boxA rfl rfl rfl fun _ => ?_
  refine S_boxA rfl rfl rfl fun _ => ?_
  refine S_boxA rfl rfl rfl fun _ => ?_
  refine S_allocA (zer rfl) rfl rfl fun _ => ?_
  refine S_nil ?_
  refine X_seq ?_
  refine T_seq ?_
  refine T_region ?_
  refine S_val rfl rfl (Y_loadAI 0 (und rfl) rfl rfl rfl (siz rfl) (dl_length _ _ _)) ?_
  refine S_callV rfl rfl (bod rfl) (fun w hs => rof_any a _) rfl rfl ?_
  refine S_allocA (zer rfl) rfl rfl fun _ => ?_
  refine S_storeAI 4 (siz rfl) rfl rfl rfl rfl (dl_length _ _ _) rfl ?_
  refine S_nil ?_
  refine X_seq ?_
  refine T_seq ?_
  refine T_region ?_
  refine S_val rfl rfl (Y_loadAI 1 (und rfl) rfl rfl rfl (siz rfl) (dl_length _ _ _)) ?_
  refine S_callV rfl rfl (bod rfl) (fun w hs => rof_any b _) rfl rfl ?_
  refine S_allocA (zer rfl) rfl rfl fun _ => ?_
  refine S_storeAI 5 (siz rfl) rfl rfl rfl rfl (dl_length _ _ _) rfl ?_
  refine S_nil ?_
  refine X_seq ?_
  refine T_seq ?_
  refine T_region ?_
  refine S_val rfl rfl (Y_loadAI 0 (und rfl) rfl rfl rfl (siz rfl) (dl_length _ _ _)) ?_
  refine S_callR _ rfl rfl (bod rfl) (fun w hs => nof_any a _) rfl rfl fun _ => ?_
  refine S_val rfl rfl (Y_assign rfl) ?_
  refine S_nil ?_
  refine X_seq ?_
  refine T_seq ?_
  refine T_region ?_
  refine S_val rfl rfl (Y_loadAI 1 (und rfl) rfl rfl rfl (siz rfl) (dl_length _ _ _)) ?_
  refine S_callR _ rfl rfl (bod rfl) (fun w hs => nof_any b _) rfl rfl fun _ => ?_
  refine S_val rfl rfl (Y_assign rfl) ?_
  refine S_nil ?_
  refine X_seq ?_
  refine T_seq ?_
  refine T_seq ?_
  refine T_region ?_
  refine S_val rfl rfl (Y_move rfl) ?_
  refine S_nil ?_
  refine X_seq ?_
  refine T_block ?_
  refine T_seq ?_
  refine T_region ?_
  refine S_val rfl rfl (Y_eql_f rfl rfl (by decide)) ?_
  refine S_val rfl rfl (Y_assign rfl) ?_
  refine S_nil ?_
  refine X_seq ?_
  refine T_cond_false rfl ?_
  refine T_seq ?_
  refine T_region ?_
  refine S_val rfl rfl (Y_eql_f rfl rfl (by decide)) ?_
  refine S_val rfl rfl (Y_assign rfl) ?_
  refine S_nil ?_
  refine X_seq ?_
  refine T_cond_false rfl ?_
  refine T_seq ?_
  refine T_region ?_
  refine S_val rfl rfl (Y_eql_f rfl rfl (by decide)) ?_
  refine S_val rfl rfl (Y_assign rfl) ?_
  refine S_nil ?_
  refine X_seq ?_
  refine T_cond_false rfl ?_
  refine T_seq ?_
  refine T_region ?_
  refine S_val rfl rfl (Y_eql_f rfl rfl (by decide)) ?_
  refine S_val rfl rfl (Y_assign rfl) ?_
  refine S_nil ?_
  refine X_seq ?_
  refine T_cond_false rfl ?_
  refine T_seq ?_
  refine T_region ?_
  refine S_val rfl rfl (Y_eql_f rfl rfl (by decide)) ?_
  refine S_val rfl rfl (Y_assign rfl) ?_
  refine S_nil ?_
  refine X_seq ?_
  refine T_cond_false rfl ?_
  refine T_seq ?_
  refine T_region ?_
  refine S_val rfl rfl (Y_eql_f rfl rfl (by decide)) ?_
  refine S_val rfl rfl (Y_assign rfl) ?_
  refine S_nil ?_
  refine X_seq ?_
  refine T_cond_false rfl ?_
  refine T_seq ?_
  refine T_region ?_
  refine S_val rfl rfl (Y_eql_t rfl rfl (by decide)) ?_
  refine S_val rfl rfl (Y_assign rfl) ?_
  refine S_nil ?_
  refine X_seq ?_
  refine T_cond_true rfl ?_
  refine T_seq ?_
  refine T_region ?_
  refine S_val rfl rfl (Y_loadAI 0 (und rfl) rfl rfl rfl (siz rfl) (dl_length _ _ _)) ?_
  refine S_val rfl rfl (Y_loadAI 1 (und rfl) rfl rfl rfl (siz rfl) (dl_length _ _ _)) ?_
  refine S_callV rfl rfl (bod rfl) (fun w hs => ct _) rfl rfl ?_
  refine S_val rfl rfl (Y_move rfl) ?_
  refine S_val rfl rfl (Y_extract rfl rfl) ?_
  refine S_val rfl rfl (Y_extract rfl rfl) ?_
  refine S_allocA (zer rfl) rfl rfl fun _ => ?_
  refine S_allocA (zer rfl) rfl rfl fun _ => ?_
  refine S_storeAI 8 (siz rfl) rfl rfl rfl rfl (dl_length _ _ _) rfl ?_
  refine S_storeAI 9 (siz rfl) rfl rfl rfl rfl (dl_length _ _ _) rfl ?_
  refine S_nil ?_
  refine X_seq ?_
  refine T_seq ?_
  refine T_region ?_
  refine S_val rfl rfl (Y_loadAI 9 (und rfl) rfl rfl rfl (siz rfl) (dl_length _ _ _)) ?_
  refine S_storeAI 3 (siz rfl) rfl rfl rfl rfl (dl_length _ _ _) rfl ?_
  refine S_nil ?_
  refine X_seq ?_
  refine T_ret ?_
  refine X_blk_ret ?_
  refine X_seq_ret ?_
  ((first | refine X_fin_ret ?_ | refine X_fin ?_); exact ⟨[_], [], .cons (.agg 3 rfl (und rfl) rfl rfl (siz rfl)) .nil, Emb.nil _, rfl, rfl⟩)
theorem low_8 (a b c : Nat) (ha : a < 2 ^ 256) (hb : b < 2 ^ 256) (hc : c < 2 ^ 256) (w : World) : Fn Tryz.prog 13 #[.int .u8 8, W a, W b, W c] w fun v N => v = W (remN (a + b) c) ∧ N = [] := by
  have hp : a + b < 256 ^ (max 32 32 + 1) := Nat.lt_of_lt_of_le (show a + b < 2 ^ 256 * 256 by omega) (by rw [show (2 : Nat) ^ 256 * 256 = 256 ^ (max 32 32 + 1) by decide]; exact Nat.le_refl _)
  have dv := fun v u w h h' => ndiv_any (a + b) c (max 32 32 + 1) 32 hp (lt_d32 hc) (by omega) (by omega) v u w h h'
  have pl := fun v u w h h' => nplus_any a b 32 32 (lt_d32 ha) (lt_d32 hb) (by omega) (by omega) v u w h h'
  refine Fn_of (args := [.int .u8 8, W a, W b, W c]) Tryz.func13 rfl Tryz.ntmps13 Tryz.results13 (by simp) ?_
  refine T_seq ?_
  refine T_region ?_
  refine S_boxA rfl rfl rfl fun _ => ?_
  refine S_boxA rfl rfl rfl fun _ => ?_
  refine S_boxA rfl rfl rfl fun _ => ?_
  refine S_allocA (zer rfl) rfl rfl fun _ => ?_
  refine S_nil ?_
  refine X_seq ?_
  refine T_seq ?_
  refine T_region ?_
  refine S_val rfl rfl (Y_loadAI 0 (und rfl) rfl rfl rfl (siz rfl) (dl_length _ _ _)) ?_
  refine S_callV rfl rfl (bod rfl) (fun w hs => rof_any a _) rfl rfl ?_
  refine S_allocA (zer rfl) rfl rfl fun _ => ?_
  refine S_storeAI 4 (siz rfl) rfl rfl rfl rfl (dl_length _ _ _) rfl ?_
  refine S_nil ?_
  refine X_seq ?_
  refine T_seq ?_
  refine T_region ?_
  refine S_val rfl rfl (Y_loadAI 1 (und rfl) rfl rfl rfl (siz rfl) (dl_length _ _ _)) ?_
  refine S_callV rfl rfl (bod rfl) (fun w hs => rof_any b _) rfl rfl ?_
  refine S_allocA (zer rfl) rfl rfl fun _ => ?_
  refine S_storeAI 5 (siz rfl) rfl rfl rfl rfl (dl_length _ _ _) rfl ?_
  refine S_nil ?_
  refine X_seq ?_
  refine T_seq ?_
  refine T_region ?_
  refine S_val rfl rfl (Y_loadAI 0 (und rfl) rfl rfl rfl (siz rfl) (dl_length _ _ _)) ?_
  refine S_callR _ rfl rfl (bod rfl) (fun w hs => nof_any a _) rfl rfl fun _ => ?_
  refine S_val rfl rfl (Y_assign rfl) ?_
  refine S_nil ?_
  refine X_seq ?_
  refine T_seq ?_
  refine T_region ?_
  refine S_val rfl rfl (Y_loadAI 1 (und rfl) rfl rfl rfl (siz rfl) (dl_length _ _ _)) ?_
  refine S_callR _ rfl rfl (bod rfl) (fun w hs => nof_any b _) rfl rfl fun _ => ?_
  refine S_val rfl rfl (Y_assign rfl) ?_
  refine S_nil ?_
  refine X_seq ?_
  refine T_seq ?_
  refine T_seq ?_
  refine T_region ?_
  refine S_val rfl rfl (Y_move rfl) ?_
  refine S_nil ?_
  refine X_seq ?_
  refine T_block ?_
  refine T_seq ?_
  refine T_region ?_
  refine S_val rfl rfl (Y_eql_f rfl rfl (by decide)) ?_
  refine S_val rfl rfl (Y_assign rfl) ?_
  refine S_nil ?_
  refine X_seq ?_
  refine T_cond_false rfl ?_
  refine T_seq ?_
  refine T_region ?_
  refine S_val rfl rfl (Y_eql_f rfl rfl (by decide)) ?_
  refine S_val rfl rfl (Y_assign rfl) ?_
  refine S_nil ?_
  refine X_seq ?_
  refine T_cond_false rfl ?_
  refine T_seq ?_
  refine T_region ?_
  refine S_val rfl rfl (Y_eql_f rfl rfl (by decide)) ?_
  refine S_val rfl rfl (Y_assign rfl) ?_
  refine S_nil ?_
  refine X_seq ?_
  refine T_cond_false rfl ?_
  refine T_seq ?_
  refine T_region ?_
  refine S_val rfl rfl (Y_eql_f rfl rfl (by decide)) ?_
  refine S_val rfl rfl (Y_assign rfl) ?_
  refine S_nil ?_
  refine X_seq ?_
  refine T_cond_false rfl ?_
  refine T_seq ?_
  refine T_region ?_
  refine S_val rfl rfl (Y_eql_f rfl rfl (by decide)) ?_
  refine S_val rfl rfl (Y_assign rfl) ?_
  refine S_nil ?_
  refine X_seq ?_
  refine T_cond_false rfl ?_
  refine T_seq ?_
  refine T_region ?_
  refine S_val rfl rfl (Y_eql_f rfl rfl (by decide)) ?_
  refine S_val rfl rfl (Y_assign rfl) ?_
  refine S_nil ?_
  refine X_seq ?_
  refine T_cond_false rfl ?_
  refine T_seq ?_
  refine T_region ?_
  refine S_val rfl rfl (Y_eql_f rfl rfl (by decide)) ?_
  refine S_val rfl rfl (Y_assign rfl) ?_
  refine S_nil ?_
  refine X_seq ?_
  refine T_cond_false rfl ?_
  refine T_seq ?_
  refine T_region ?_
  refine S_val rfl rfl (Y_eql_t rfl rfl (by decide)) ?_
  refine S_val rfl rfl (Y_assign rfl) ?_
  refine S_nil ?_
  refine X_seq ?_
  refine T_cond_true rfl ?_
  refine T_seq ?_
  refine T_draw (by kernel_rfl) (by kernel_rfl) rfl ?_
  refine D0_val rfl rfl rfl (Y_move rfl) ?_
  refine D0_val rfl rfl rfl (Y_move rfl) ?_
  refine D0_two ?_
  skip
  refine D2_call [] (by kernel_rfl) (fun _ => rfl) (fun _ => rfl) (bod rfl) (fun H w hK hs => pl _ _ w (hs.left.rowRd 6 rfl) (hs.left.rowRd 7 rfl)) (fun _ => rfl) rfl ?_
  refine D2_valM rfl (fun _ => rfl) rfl (fun _ => (Y_loadAI 2 (und rfl) rfl rfl rfl (siz rfl) (dl_length _ _ _))) ?_
  refine D2_call [] (by kernel_rfl) (fun _ => rfl) (fun _ => rfl) (bod rfl) (fun H w hK hs => nof_any c w) (fun _ => rfl) rfl ?_
  skip
  refine D2_call [0, 1] (by kernel_rfl) (fun _ => rfl) (fun _ => rfl) (bod rfl) (fun H w hK hs => dv _ _ w (by first | exact Kn.rd hK hs 0 rfl | exact Kn.rd hK hs 1 rfl | exact Kn.rd hK hs 2 rfl | exact Kn.rd hK hs 3 rfl | exact Kn.rd hK hs 4 rfl | exact Kn.rd hK hs 5 rfl | exact hs.left.rowRd 0 rfl | exact hs.left.rowRd 1 rfl | exact hs.left.rowRd 2 rfl | exact hs.left.rowRd 3 rfl | exact hs.left.rowRd 4 rfl | exact hs.left.rowRd 5 rfl | exact hs.left.rowRd 6 rfl | exact hs.left.rowRd 7 rfl | exact hs.left.rowRd 8 rfl | exact hs.left.rowRd 9 rfl | exact hs.left.rowRd 10 rfl | exact hs.left.rowRd 11 rfl | exact hs.left.rowRd 12 rfl | exact hs.left.rowRd 13 rfl | exact Rd.st (by assumption) hs) (by first | exact Kn.rd hK hs 0 rfl | exact Kn.rd hK hs 1 rfl | exact Kn.rd hK hs 2 rfl | exact Kn.rd hK hs 3 rfl | exact Kn.rd hK hs 4 rfl | exact Kn.rd hK hs 5 rfl | exact hs.left.rowRd 0 rfl | exact hs.left.rowRd 1 rfl | exact hs.left.rowRd 2 rfl | exact hs.left.rowRd 3 rfl | exact hs.left.rowRd 4 rfl | exact hs.left.rowRd 5 rfl | exact hs.left.rowRd 6 rfl | exact hs.left.rowRd 7 rfl | exact hs.left.rowRd 8 rfl | exact hs.left.rowRd 9 rfl | exact hs.left.rowRd 10 rfl | exact hs.left.rowRd 11 rfl | exact hs.left.rowRd 12 rfl | exact hs.left.rowRd 13 rfl | exact Rd.st (by assumption) hs)) (fun _ => rfl) rfl ?_
  refine D2_move _ (by kernel_rfl) (fun _ => rfl) rfl (fun _ => rfl) ?_
  refine D2_extract 2 rfl (by kernel_rfl) (by rintro u N ⟨j, r, v1, v2, _, _, _, rfl, _⟩; exact ⟨[v1, v2], rfl, by simp⟩) (fun _ => rfl) rfl (fun _ => rfl) ?_
  refine D2_extract 2 rfl (by kernel_rfl) (by rintro u N ⟨j, r, v1, v2, _, _, _, rfl, _⟩; exact ⟨[v1, v2], rfl, by simp⟩) (fun _ => rfl) rfl (fun _ => rfl) ?_
  refine D2_asgT _ _ (by kernel_rfl) (fun _ => rfl) rfl (fun _ => rfl) ?_
  refine D2_asgT _ _ (by kernel_rfl) (fun _ => rfl) rfl (fun _ => rfl) ?_
  refine D2_nil fun H hK => ?_
  have h1 : (H 2).2 = [row .i64 (dl 256 (max 32 32 + 1) (a + b)) (H 2).1] := hK _ (List.mem_of_getElem? (i := 0) rfl)
  have h3 : (H 4).2 = [row .i64 (dl 256 32 c) (H 4).1] := hK _ (List.mem_of_getElem? (i := 1) rfl)
  obtain ⟨j, r, v1, v2, hr, hrj, hj, hz, hN⟩ := hK _ (List.mem_of_getElem? (i := 2) rfl)
  have hr' : r = remN (a + b) c := hr
  simp only at hz hN
  have e0 : tg (.tuple #[v1, v2]) 0 = v1 := rfl
  have e1 : tg (.tuple #[v1, v2]) 1 = v2 := rfl
  simp only [Kn.hp, List.flatMap_cons, List.flatMap_nil, List.nil_append, List.cons_append, List.append_nil, h1, h3, hN, hz, e0, e1]
  subst hr'
  clear hK h1 h3 hN hz hr dv pl
  refine X_seq ?_
  refine T_seq ?_
  refine T_region ?_
  refine S_val rfl rfl (Y_move rfl) ?_
  refine S_callV rfl rfl (bod rfl) (fun w hs => nword_any (remN (a + b) c) j hrj _ _ (by first | exact hs.rowRd 0 rfl | exact hs.rowRd 1 rfl | exact hs.rowRd 2 rfl | exact hs.rowRd 3 rfl | exact hs.rowRd 4 rfl | exact hs.rowRd 5 rfl | exact hs.rowRd 6 rfl | exact hs.rowRd 7 rfl | exact hs.rowRd 8 rfl | exact hs.rowRd 9 rfl | exact hs.rowRd 10 rfl | exact hs.rowRd 11 rfl | exact hs.rowRd 12 rfl | exact hs.rowRd 13 rfl | exact Rd.st (by assumption) hs)) rfl rfl ?_
  refine S_storeAI 3 (siz rfl) rfl rfl rfl rfl (dl_length _ _ _) rfl ?_
  refine S_nil ?_
  refine X_seq ?_
  refine T_ret ?_
  refine X_blk_ret ?_
  refine X_seq_ret ?_
  ((first | refine X_fin_ret ?_ | refine X_fin ?_); exact ⟨[_], [], .cons (.agg 3 rfl (und rfl) rfl rfl (siz rfl)) .nil, Emb.nil _, rfl, rfl⟩)
theorem low_9 (a b c : Nat) (ha : a < 2 ^ 256) (hb : b < 2 ^ 256) (hc : c < 2 ^ 256) (w : World) : Fn Tryz.prog 13 #[.int .u8 9, W a, W b, W c] w fun v N => v = W (remN (a * b) c) ∧ N = [] := by
  have hp : a * b < 256 ^ (32 + 32 + 1) := Nat.lt_of_lt_of_le (Nat.mul_lt_mul'' (lt_d32 ha) (lt_d32 hb)) (by rw [← Nat.pow_add]; exact Nat.pow_le_pow_right (by omega) (by omega))
  have dv := fun v u w h h' => ndiv_any (a * b) c (32 + 32 + 1) 32 hp (lt_d32 hc) (by omega) (by omega) v u w h h'
  have pl := fun v u w h h' => ntimes_any a b 32 32 (lt_d32 ha) (lt_d32 hb) (by omega) (by omega) v u w h h'
  refine Fn_of (args := [.int .u8 9, W a, W b, W c]) Tryz.func13 rfl Tryz.ntmps13 Tryz.results13 (by simp) ?_
  refine T_seq ?_
  refine T_region ?_
  refine S_boxA rfl rfl rfl fun _ => ?_
  refine S_boxA rfl rfl rfl fun _ => ?_
  refine S_boxA rfl rfl rfl fun _ => ?_
  refine S_allocA (zer rfl) rfl rfl fun _ => ?_
  refine S_nil ?_
  refine X_seq ?_
  refine T_seq ?_
  refine T_region ?_
  refine S_val rfl rfl (Y_loadAI 0 (und rfl) rfl rfl rfl (siz rfl) (dl_length _ _ _)) ?_
  refine S_callV rfl rfl (bod rfl) (fun w hs => rof_any a _) rfl rfl ?_
  refine S_allocA (zer rfl) rfl rfl fun _ => ?_
  refine S_storeAI 4 (siz rfl) rfl rfl rfl rfl (dl_length _ _ _) rfl ?_
  refine S_nil ?_
  refine X_seq ?_
  refine T_seq ?_
  refine T_region ?_
  refine S_val rfl rfl (Y_loadAI 1 (und rfl) rfl rfl rfl (siz rfl) (dl_length _ _ _)) ?_
  refine S_callV rfl rfl (bod rfl) (fun w hs => rof_any b _) rfl rfl ?_
  refine S_allocA (zer rfl) rfl rfl fun _ => ?_
  refine S_storeAI 5 (siz rfl) rfl rfl rfl rfl (dl_length _ _ _) rfl ?_
  refine S_nil ?_
  refine X_seq ?_
  refine T_seq ?_
  refine T_region ?_
  refine S_val rfl rfl (Y_loadAI 0 (und rfl) rfl rfl rfl (siz rfl) (dl_length _ _ _)) ?_
  refine S_callR _ rfl rfl (bod rfl) (fun w hs => nof_any a _) rfl rfl fun _ => ?_
  refine S_val rfl rfl (Y_assign rfl) ?_
  refine S_nil ?_
  refine X_seq ?_
  refine T_seq ?_
  refine T_region ?_
  refine S_val rfl rfl (Y_loadAI 1 (und rfl) rfl rfl rfl (siz rfl) (dl_length _ _ _)) ?_
  refine S_callR _ rfl rfl (bod rfl) (fun w hs => nof_any b _) rfl rfl fun _ => ?_
  refine S_val rfl rfl (Y_assign rfl) ?_
  refine S_nil ?_
  refine X_seq ?_
  refine T_seq ?_
  refine T_seq ?_
  refine T_region ?_
  refine S_val rfl rfl (Y_move rfl) ?_
  refine S_nil ?_
  refine X_seq ?_
  refine T_block ?_
  refine T_seq ?_
  refine T_region ?_
  refine S_val rfl rfl (Y_eql_f rfl rfl (by decide)) ?_
  refine S_val rfl rfl (Y_assign rfl) ?_
  refine S_nil ?_
  refine X_seq ?_
  refine T_cond_false rfl ?_
  refine T_seq ?_
  refine T_region ?_
  refine S_val rfl rfl (Y_eql_f rfl rfl (by decide)) ?_
  refine S_val rfl rfl (Y_assign rfl) ?_
  refine S_nil ?_
  refine X_seq ?_
  refine T_cond_false rfl ?_
  refine T_seq ?_
  refine T_region ?_
  refine S_val rfl rfl (Y_eql_f rfl rfl (by decide)) ?_
  refine S_val rfl rfl (Y_assign rfl) ?_
  refine S_nil ?_
  refine X_seq ?_
  refine T_cond_false rfl ?_
  refine T_seq ?_
  refine T_region ?_
  refine S_val rfl rfl (Y_eql_f rfl rfl (by decide)) ?_
  refine S_val rfl rfl (Y_assign rfl) ?_
  refine S_nil ?_
  refine X_seq ?_
  refine T_cond_false rfl ?_
  refine T_seq ?_
  refine T_region ?_
  refine S_val rfl rfl (Y_eql_f rfl rfl (by decide)) ?_
  refine S_val rfl rfl (Y_assign rfl) ?_
  refine S_nil ?_
  refine X_seq ?_
  refine T_cond_false rfl ?_
  refine T_seq ?_
  refine T_region ?_
  refine S_val rfl rfl (Y_eql_f rfl rfl (by decide)) ?_
  refine S_val rfl rfl (Y_assign rfl) ?_
  refine S_nil ?_
  refine X_seq ?_
  refine T_cond_false rfl ?_
  refine T_seq ?_
  refine T_region ?_
  refine S_val rfl rfl (Y_eql_f rfl rfl (by decide)) ?_
  refine S_val rfl rfl (Y_assign rfl) ?_
  refine S_nil ?_
  refine X_seq ?_
  refine T_cond_false rfl ?_
  refine T_seq ?_
  refine T_region ?_
  refine S_val rfl rfl (Y_eql_f rfl rfl (by decide)) ?_
  refine S_val rfl rfl (Y_assign rfl) ?_
  refine S_nil ?_
  refine X_seq ?_
  refine T_cond_false rfl ?_
  refine T_seq ?_
  refine T_region ?_
  refine S_val rfl rfl (Y_eql_t rfl rfl (by decide)) ?_
  refine S_val rfl rfl (Y_assign rfl) ?_
  refine S_nil ?_
  refine X_seq ?_
  refine T_cond_true rfl ?_
  refine T_seq ?_
  refine T_draw (by kernel_rfl) (by kernel_rfl) rfl ?_
  refine D0_val rfl rfl rfl (Y_move rfl) ?_
  refine D0_val rfl rfl rfl (Y_move rfl) ?_
  refine D0_two ?_
  skip
  refine D2_call [] (by kernel_rfl) (fun _ => rfl) (fun _ => rfl) (bod rfl) (fun H w hK hs => pl _ _ w (hs.left.rowRd 6 rfl) (hs.left.rowRd 7 rfl)) (fun _ => rfl) rfl ?_
  refine D2_valM rfl (fun _ => rfl) rfl (fun _ => (Y_loadAI 2 (und rfl) rfl rfl rfl (siz rfl) (dl_length _ _ _))) ?_
  refine D2_call [] (by kernel_rfl) (fun _ => rfl) (fun _ => rfl) (bod rfl) (fun H w hK hs => nof_any c w) (fun _ => rfl) rfl ?_
  skip
  refine D2_call [0, 1] (by kernel_rfl) (fun _ => rfl) (fun _ => rfl) (bod rfl) (fun H w hK hs => dv _ _ w (by first | exact Kn.rd hK hs 0 rfl | exact Kn.rd hK hs 1 rfl | exact Kn.rd hK hs 2 rfl | exact Kn.rd hK hs 3 rfl | exact Kn.rd hK hs 4 rfl | exact Kn.rd hK hs 5 rfl | exact hs.left.rowRd 0 rfl | exact hs.left.rowRd 1 rfl | exact hs.left.rowRd 2 rfl | exact hs.left.rowRd 3 rfl | exact hs.left.rowRd 4 rfl | exact hs.left.rowRd 5 rfl | exact hs.left.rowRd 6 rfl | exact hs.left.rowRd 7 rfl | exact hs.left.rowRd 8 rfl | exact hs.left.rowRd 9 rfl | exact hs.left.rowRd 10 rfl | exact hs.left.rowRd 11 rfl | exact hs.left.rowRd 12 rfl | exact hs.left.rowRd 13 rfl | exact Rd.st (by assumption) hs) (by first | exact Kn.rd hK hs 0 rfl | exact Kn.rd hK hs 1 rfl | exact Kn.rd hK hs 2 rfl | exact Kn.rd hK hs 3 rfl | exact Kn.rd hK hs 4 rfl | exact Kn.rd hK hs 5 rfl | exact hs.left.rowRd 0 rfl | exact hs.left.rowRd 1 rfl | exact hs.left.rowRd 2 rfl | exact hs.left.rowRd 3 rfl | exact hs.left.rowRd 4 rfl | exact hs.left.rowRd 5 rfl | exact hs.left.rowRd 6 rfl | exact hs.left.rowRd 7 rfl | exact hs.left.rowRd 8 rfl | exact hs.left.rowRd 9 rfl | exact hs.left.rowRd 10 rfl | exact hs.left.rowRd 11 rfl | exact hs.left.rowRd 12 rfl | exact hs.left.rowRd 13 rfl | exact Rd.st (by assumption) hs)) (fun _ => rfl) rfl ?_
  refine D2_move _ (by kernel_rfl) (fun _ => rfl) rfl (fun _ => rfl) ?_
  refine D2_extract 2 rfl (by kernel_rfl) (by rintro u N ⟨j, r, v1, v2, _, _, _, rfl, _⟩; exact ⟨[v1, v2], rfl, by simp⟩) (fun _ => rfl) rfl (fun _ => rfl) ?_
  refine D2_extract 2 rfl (by kernel_rfl) (by rintro u N ⟨j, r, v1, v2, _, _, _, rfl, _⟩; exact ⟨[v1, v2], rfl, by simp⟩) (fun _ => rfl) rfl (fun _ => rfl) ?_
  refine D2_asgT _ _ (by kernel_rfl) (fun _ => rfl) rfl (fun _ => rfl) ?_
  refine D2_asgT _ _ (by kernel_rfl) (fun _ => rfl) rfl (fun _ => rfl) ?_
  refine D2_nil fun H hK => ?_
  have h1 : (H 2).2 = [row .i64 (dl 256 (32 + 32 + 1) (a * b)) (H 2).1] := hK _ (List.mem_of_getElem? (i := 0) rfl)
  have h3 : (H 4).2 = [row .i64 (dl 256 32 c) (H 4).1] := hK _ (List.mem_of_getElem? (i := 1) rfl)
  obtain ⟨j, r, v1, v2, hr, hrj, hj, hz, hN⟩ := hK _ (List.mem_of_getElem? (i := 2) rfl)
  have hr' : r = remN (a * b) c := hr
  simp only at hz hN
  have e0 : tg (.tuple #[v1, v2]) 0 = v1 := rfl
  have e1 : tg (.tuple #[v1, v2]) 1 = v2 := rfl
  simp only [Kn.hp, List.flatMap_cons, List.flatMap_nil, List.nil_append, List.cons_append, List.append_nil, h1, h3, hN, hz, e0, e1]
  subst hr'
  clear hK h1 h3 hN hz hr dv pl
  refine X_seq ?_
  refine T_seq ?_
  refine T_region ?_
  refine S_val rfl rfl (Y_move rfl) ?_
  refine S_callV rfl rfl (bod rfl) (fun w hs => nword_any (remN (a * b) c) j hrj _ _ (by first | exact hs.rowRd 0 rfl | exact hs.rowRd 1 rfl | exact hs.rowRd 2 rfl | exact hs.rowRd 3 rfl | exact hs.rowRd 4 rfl | exact hs.rowRd 5 rfl | exact hs.rowRd 6 rfl | exact hs.rowRd 7 rfl | exact hs.rowRd 8 rfl | exact hs.rowRd 9 rfl | exact hs.rowRd 10 rfl | exact hs.rowRd 11 rfl | exact hs.rowRd 12 rfl | exact hs.rowRd 13 rfl | exact Rd.st (by assumption) hs)) rfl rfl ?_
  refine S_storeAI 3 (siz rfl) rfl rfl rfl rfl (dl_length _ _ _) rfl ?_
  refine S_nil ?_
  refine X_seq ?_
  refine T_ret ?_
  refine X_blk_ret ?_
  refine X_seq_ret ?_
  ((first | refine X_fin_ret ?_ | refine X_fin ?_); exact ⟨[_], [], .cons (.agg 3 rfl (und rfl) rfl rfl (siz rfl)) .nil, Emb.nil _, rfl, rfl⟩)
theorem low_10 (a b c : Nat) (ha : a < 2 ^ 256) (hb : b < 2 ^ 256) (hc : c < 2 ^ 256) (w : World) : Fn Tryz.prog 13 #[.int .u8 10, W a, W b, W c] w fun v N => v = W (expN a b) ∧ N = [] := by
  have ct := rexp_any a b ha hb
  generalize expN a b = z at *
  refine Fn_of (args := [.int .u8 10, W a, W b, W c]) Tryz.func13 rfl Tryz.ntmps13 Tryz.results13 (by simp) ?_
  refine T_seq ?_
  refine T_region ?_
  refine S_boxA rfl rfl rfl fun _ => ?_
  refine S_boxA rfl rfl rfl fun _ => ?_
  refine S_boxA rfl rfl rfl fun _ => ?_
  refine S_allocA (zer rfl) rfl rfl fun _ => ?_
  refine S_nil ?_
  refine X_seq ?_
  refine T_seq ?_
  refine T_region ?_
  refine S_val rfl rfl (Y_loadAI 0 (und rfl) rfl rfl rfl (siz rfl) (dl_length _ _ _)) ?_
  refine S_callV rfl rfl (bod rfl) (fun w hs => rof_any a _) rfl rfl ?_
  refine S_allocA (zer rfl) rfl rfl fun _ => ?_
  refine S_storeAI 4 (siz rfl) rfl rfl rfl rfl (dl_length _ _ _) rfl ?_
  refine S_nil ?_
  refine X_seq ?_
  refine T_seq ?_
  refine T_region ?_
  refine S_val rfl rfl (Y_loadAI 1 (und rfl) rfl rfl rfl (siz rfl) (dl_length _ _ _)) ?_
  refine S_callV rfl rfl (bod rfl) (fun w hs => rof_any b _) rfl rfl ?_
  refine S_allocA (zer rfl) rfl rfl fun _ => ?_
  refine S_storeAI 5 (siz rfl) rfl rfl rfl rfl (dl_length _ _ _) rfl ?_
  refine S_nil ?_
  refine X_seq ?_
  refine T_seq ?_
  refine T_region ?_
  refine S_val rfl rfl (Y_loadAI 0 (und rfl) rfl rfl rfl (siz rfl) (dl_length _ _ _)) ?_
  refine S_callR _ rfl rfl (bod rfl) (fun w hs => nof_any a _) rfl rfl fun _ => ?_
  refine S_val rfl rfl (Y_assign rfl) ?_
  refine S_nil ?_
  refine X_seq ?_
  refine T_seq ?_
  refine T_region ?_
  refine S_val rfl rfl (Y_loadAI 1 (und rfl) rfl rfl rfl (siz rfl) (dl_length _ _ _)) ?_
  refine S_callR _ rfl rfl (bod rfl) (fun w hs => nof_any b _) rfl rfl fun _ => ?_
  refine S_val rfl rfl (Y_assign rfl) ?_
  refine S_nil ?_
  refine X_seq ?_
  refine T_seq ?_
  refine T_seq ?_
  refine T_region ?_
  refine S_val rfl rfl (Y_move rfl) ?_
  refine S_nil ?_
  refine X_seq ?_
  refine T_block ?_
  refine T_seq ?_
  refine T_region ?_
  refine S_val rfl rfl (Y_eql_f rfl rfl (by decide)) ?_
  refine S_val rfl rfl (Y_assign rfl) ?_
  refine S_nil ?_
  refine X_seq ?_
  refine T_cond_false rfl ?_
  refine T_seq ?_
  refine T_region ?_
  refine S_val rfl rfl (Y_eql_f rfl rfl (by decide)) ?_
  refine S_val rfl rfl (Y_assign rfl) ?_
  refine S_nil ?_
  refine X_seq ?_
  refine T_cond_false rfl ?_
  refine T_seq ?_
  refine T_region ?_
  refine S_val rfl rfl (Y_eql_f rfl rfl (by decide)) ?_
  refine S_val rfl rfl (Y_assign rfl) ?_
  refine S_nil ?_
  refine X_seq ?_
  refine T_cond_false rfl ?_
  refine T_seq ?_
  refine T_region ?_
  refine S_val rfl rfl (Y_eql_f rfl rfl (by decide)) ?_
  refine S_val rfl rfl (Y_assign rfl) ?_
  refine S_nil ?_
  refine X_seq ?_
  refine T_cond_false rfl ?_
  refine T_seq ?_
  refine T_region ?_
  refine S_val rfl rfl (Y_eql_f rfl rfl (by decide)) ?_
  refine S_val rfl rfl (Y_assign rfl) ?_
  refine S_nil ?_
  refine X_seq ?_
  refine T_cond_false rfl ?_
  refine T_seq ?_
  refine T_region ?_
  refine S_val rfl rfl (Y_eql_f rfl rfl (by decide)) ?_
  refine S_val rfl rfl (Y_assign rfl) ?_
  refine S_nil ?_
  refine X_seq ?_
  refine T_cond_false rfl ?_
  refine T_seq ?_
  refine T_region ?_
  refine S_val rfl rfl (Y_eql_f rfl rfl (by decide)) ?_
  refine S_val rfl rfl (Y_assign rfl) ?_
  refine S_nil ?_
  refine X_seq ?_
  refine T_cond_false rfl ?_
  refine T_seq ?_
  refine T_region ?_
  refine S_val rfl rfl (Y_eql_f rfl rfl (by decide)) ?_
  refine S_val rfl rfl (Y_assign rfl) ?_
  refine S_nil ?_
  refine X_seq ?_
  refine T_cond_false rfl ?_
  refine T_seq ?_
  refine T_region ?_
  refine S_val rfl rfl (Y_eql_f rfl rfl (by decide)) ?_
  refine S_val rfl rfl (Y_assign rfl) ?_
  refine S_nil ?_
  refine X_seq ?_
  refine T_cond_false rfl ?_
  refine T_seq ?_
  refine T_region ?_
  refine S_val rfl rfl (Y_eql_t rfl rfl (by decide)) ?_
  refine S_val rfl rfl (Y_assign rfl) ?_
  refine S_nil ?_
  refine X_seq ?_
  refine T_cond_true rfl ?_
  refine T_seq ?_
  refine T_region ?_
  refine S_val rfl rfl (Y_loadAI 0 (und rfl) rfl rfl rfl (siz rfl) (dl_length _ _ _)) ?_
  refine S_val rfl rfl (Y_loadAI 1 (und rfl) rfl rfl rfl (siz rfl) (dl_length _ _ _)) ?_
  refine S_callV rfl rfl (bod rfl) (fun w hs => ct _) rfl rfl ?_
  refine S_storeAI 3 (siz rfl) rfl rfl rfl rfl (dl_length _ _ _) rfl ?_
  refine S_nil ?_
  refine X_seq ?_
  refine T_ret ?_
  refine X_blk_ret ?_
  refine X_seq_ret ?_
  ((first | refine X_fin_ret ?_ | refine X_fin ?_); exact ⟨[_], [], .cons (.agg 3 rfl (und rfl) rfl rfl (siz rfl)) .nil, Emb.nil _, rfl, rfl⟩)
theorem low_11 (a b c : Nat) (ha : a < 2 ^ 256) (hb : b < 2 ^ 256) (hc : c < 2 ^ 256) (w : World) : Fn Tryz.prog 13 #[.int .u8 11, W a, W b, W c] w fun v N => v = W (extN a b) ∧ N = [] := by
  have ct := rextend_any a b ha hb
  generalize extN a b = z at *
  refine Fn_of (args := [.int .u8 11, W a, W b, W c]) Tryz.func13 rfl Tryz.ntmps13 Tryz.results13 (by simp) ?_
  refine T_seq ?_
  refine T_region ?_
  refine S_boxA rfl rfl rfl fun _ => ?_
  refine S_boxA rfl rfl rfl fun _ => ?_
  refine S_boxA rfl rfl rfl fun _ => ?_
  refine S_allocA (zer rfl) rfl rfl fun _ => ?_
  refine S_nil ?_
  refine X_seq ?_
  refine T_seq ?_
  refine T_region ?_
  refine S_val rfl rfl (Y_loadAI 0 (und rfl) rfl rfl rfl (siz rfl) (dl_length _ _ _)) ?_
  refine S_callV rfl rfl (bod rfl) (fun w hs => rof_any a _) rfl rfl ?_
  refine S_allocA (zer rfl) rfl rfl fun _ => ?_
  refine S_storeAI 4 (siz rfl) rfl rfl rfl rfl (dl_length _ _ _) rfl ?_
  refine S_nil ?_
  refine X_seq ?_
  refine T_seq ?_
  refine T_region ?_
  refine S_val rfl rfl (Y_loadAI 1 (und rfl) rfl rfl rfl (siz rfl) (dl_length _ _ _)) ?_
  refine S_callV rfl rfl (bod rfl) (fun w hs => rof_any b _) rfl rfl ?_
  refine S_allocA (zer rfl) rfl rfl fun _ => ?_
  refine S_storeAI 5 (siz rfl) rfl rfl rfl rfl (dl_length _ _ _) rfl ?_
  refine S_nil ?_
  refine X_seq ?_
  refine T_seq ?_
  refine T_region ?_
  refine S_val rfl rfl (Y_loadAI 0 (und rfl) rfl rfl rfl (siz rfl) (dl_length _ _ _)) ?_
  refine S_callR _ rfl rfl (bod rfl) (fun w hs => nof_any a _) rfl rfl fun _ => ?_
  refine S_val rfl rfl (Y_assign rfl) ?_
  refine S_nil ?_
  refine X_seq ?_
  refine T_seq ?_
  refine T_region ?_
  refine S_val rfl rfl (Y_loadAI 1 (und rfl) rfl rfl rfl (siz rfl) (dl_length _ _ _)) ?_
  refine S_callR _ rfl rfl (bod rfl) (fun w hs => nof_any b _) rfl rfl fun _ => ?_
  refine S_val rfl rfl (Y_assign rfl) ?_
  refine S_nil ?_
  refine X_seq ?_
  refine T_seq ?_
  refine T_seq ?_
  refine T_region ?_
  refine S_val rfl rfl (Y_move rfl) ?_
  refine S_nil ?_
  refine X_seq ?_
  refine T_block ?_
  refine T_seq ?_
  refine T_region ?_
  refine S_val rfl rfl (Y_eql_f rfl rfl (by decide)) ?_
  refine S_val rfl rfl (Y_assign rfl) ?_
  refine S_nil ?_
  refine X_seq ?_
  refine T_cond_false rfl ?_
  refine T_seq ?_
  refine T_region ?_
  refine S_val rfl rfl (Y_eql_f rfl rfl (by decide)) ?_
  refine S_val rfl rfl (Y_assign rfl) ?_
  refine S_nil ?_
  refine X_seq ?_
  refine T_cond_false rfl ?_
  refine T_seq ?_
  refine T_region ?_
  refine S_val rfl rfl (Y_eql_f rfl rfl (by decide)) ?_
  refine S_val rfl rfl (Y_assign rfl) ?_
  refine S_nil ?_
  refine X_seq ?_
  refine T_cond_false rfl ?_
  refine T_seq ?_
  refine T_region ?_
  refine S_val rfl rfl (Y_eql_f rfl rfl (by decide)) ?_
  refine S_val rfl rfl (Y_assign rfl) ?_
  refine S_nil ?_
  refine X_seq ?_
  refine T_cond_false rfl ?_
  refine T_seq ?_
  refine T_region ?_
  refine S_val rfl rfl (Y_eql_f rfl rfl (by decide)) ?_
  refine S_val rfl rfl (Y_assign rfl) ?_
  refine S_nil ?_
  refine X_seq ?_
  refine T_cond_false rfl ?_
  refine T_seq ?_
  refine T_region ?_
  refine S_val rfl rfl (Y_eql_f rfl rfl (by decide)) ?_
  refine S_val rfl rfl (Y_assign rfl) ?_
  refine S_nil ?_
  refine X_seq ?_
  refine T_cond_false rfl ?_
  refine T_seq ?_
  refine T_region ?_
  refine S_val rfl rfl (Y_eql_f rfl rfl (by decide)) ?_
  refine S_val rfl rfl (Y_assign rfl) ?_
  refine S_nil ?_
  refine X_seq ?_
  refine T_cond_false rfl ?_
  refine T_seq ?_
  refine T_region ?_
  refine S_val rfl rfl (Y_eql_f rfl rfl (by decide)) ?_
  refine S_val rfl rfl (Y_assign rfl) ?_
  refine S_nil ?_
  refine X_seq ?_
  refine T_cond_false rfl ?_
  refine T_seq ?_
  refine T_region ?_
  refine S_val rfl rfl (Y_eql_f rfl rfl (by decide)) ?_
  refine S_val rfl rfl (Y_assign rfl) ?_
  refine S_nil ?_
  refine X_seq ?_
  refine T_cond_false rfl ?_
  refine T_seq ?_
  refine T_region ?_
  refine S_val rfl rfl (Y_eql_f rfl rfl (by decide)) ?_
  refine S_val rfl rfl (Y_assign rfl) ?_
  refine S_nil ?_
  refine X_seq ?_
  refine T_cond_false rfl ?_
  refine T_skip ?_
  refine X_blk ?_
  refine X_seq ?_
  refine T_seq ?_
  refine T_region ?_
  refine S_val rfl rfl (Y_loadAI 0 (und rfl) rfl rfl rfl (siz rfl) (dl_length _ _ _)) ?_
  refine S_val rfl rfl (Y_loadAI 1 (und rfl) rfl rfl rfl (siz rfl) (dl_length _ _ _)) ?_
  refine S_callV rfl rfl (bod rfl) (fun w hs => ct _) rfl rfl ?_
  refine S_storeAI 3 (siz rfl) rfl rfl rfl rfl (dl_length _ _ _) rfl ?_
  refine S_nil ?_
  refine X_seq ?_
  refine T_ret ?_
  ((first | refine X_fin_ret ?_ | refine X_fin ?_); exact ⟨[_], [], .cons (.agg 3 rfl (und rfl) rfl rfl (siz rfl)) .nil, Emb.nil _, rfl, rfl⟩)
theorem rdo_1 (a b c : Nat) (ha : a < 2 ^ 256) (hb : b < 2 ^ 256) (hc : c < 2 ^ 256) (w : World) : Fn Tryz.prog 5 #[.int .u8 1, W a, W b, W c] w fun v N => v = .tuple #[W ((a + b) % 2 ^ 256), .bool true] ∧ N = [] := by
  have tk := rtakes_any 1
  rw [show tkN 1 = 2 by decide] at tk
  have ct := low_1 a b c ha hb hc
  generalize (a + b) % 2 ^ 256 = z at *
  refine Fn_of (args := [.int .u8 1, W a, W b, W c]) Tryz.func5 rfl Tryz.ntmps5 Tryz.results5 (by simp) ?_
  refine T_seq ?_
  refine T_region ?_
  refine S_boxA rfl rfl rfl fun _ => ?_
  refine S_boxA rfl rfl rfl fun _ => ?_
  refine S_boxA rfl rfl rfl fun _ => ?_
  refine S_allocA (zer rfl) rfl rfl fun _ => ?_
  refine S_val rfl rfl (Y_assign rfl) ?_
  refine S_nil ?_
  refine X_seq ?_
  refine T_seq ?_
  refine T_seq ?_
  refine T_region ?_
  refine S_val rfl rfl (Y_move rfl) ?_
  refine S_callV rfl rfl (bod rfl) (fun w hs => tk _) rfl rfl ?_
  refine S_val rfl rfl (Y_eql_f rfl rfl (by decide)) ?_
  refine S_nil ?_
  refine X_seq ?_
  refine T_cond_false rfl ?_
  refine T_skip ?_
  refine X_seq ?_
  refine T_seq ?_
  refine T_seq ?_
  refine T_region ?_
  refine S_val rfl rfl (Y_move rfl) ?_
  refine S_val rfl rfl (Y_lss_t rfl rfl (by decide)) ?_
  refine S_nil ?_
  refine X_seq ?_
  refine T_cond_true rfl ?_
  refine T_seq ?_
  refine T_region ?_
  refine S_val rfl rfl (Y_move rfl) ?_
  refine S_val rfl rfl (Y_loadAI 0 (und rfl) rfl rfl rfl (siz rfl) (dl_length _ _ _)) ?_
  refine S_val rfl rfl (Y_loadAI 1 (und rfl) rfl rfl rfl (siz rfl) (dl_length _ _ _)) ?_
  refine S_val rfl rfl (Y_loadAI 2 (und rfl) rfl rfl rfl (siz rfl) (dl_length _ _ _)) ?_
  refine S_callV rfl rfl (bod rfl) (fun w hs => ct _) rfl rfl ?_
  refine S_storeAI 3 (siz rfl) rfl rfl rfl rfl (dl_length _ _ _) rfl ?_
  refine S_val rfl rfl (Y_assign rfl) ?_
  refine S_nil ?_
  refine X_seq ?_
  refine T_ret ?_
  refine X_seq_ret ?_
  ((first | refine X_fin_ret ?_ | refine X_fin ?_); exact ⟨[_, _], [], .cons (.agg 3 rfl (und rfl) rfl rfl (siz rfl)) (.cons (.tmp rfl) .nil), Emb.nil _, rfl, rfl⟩)
theorem rdo_2 (a b c : Nat) (ha : a < 2 ^ 256) (hb : b < 2 ^ 256) (hc : c < 2 ^ 256) (w : World) : Fn Tryz.prog 5 #[.int .u8 2, W a, W b, W c] w fun v N => v = .tuple #[W (a * b % 2 ^ 256), .bool true] ∧ N = [] := by
  have tk := rtakes_any 2
  rw [show tkN 2 = 2 by decide] at tk
  have ct := low_2 a b c ha hb hc
  generalize a * b % 2 ^ 256 = z at *
  refine Fn_of (args := [.int .u8 2, W a, W b, W c]) Tryz.func5 rfl Tryz.ntmps5 Tryz.results5 (by simp) ?_
  refine T_seq ?_
  refine T_region ?_
  refine S_boxA rfl rfl rfl fun _ => ?_
  refine S_boxA rfl rfl rfl fun _ => ?_
  refine S_boxA rfl rfl rfl fun _ => ?_
  refine S_allocA (zer rfl) rfl rfl fun _ => ?_
  refine S_val rfl rfl (Y_assign rfl) ?_
  refine S_nil ?_
  refine X_seq ?_
  refine T_seq ?_
  refine T_seq ?_
  refine T_region ?_
  refine S_val rfl rfl (Y_move rfl) ?_
  refine S_callV rfl rfl (bod rfl) (fun w hs => tk _) rfl rfl ?_
  refine S_val rfl rfl (Y_eql_f rfl rfl (by decide)) ?_
  refine S_nil ?_
  refine X_seq ?_
  refine T_cond_false rfl ?_
  refine T_skip ?_
  refine X_seq ?_
  refine T_seq ?_
  refine T_seq ?_
  refine T_region ?_
  refine S_val rfl rfl (Y_move rfl) ?_
  refine S_val rfl rfl (Y_lss_t rfl rfl (by decide)) ?_
  refine S_nil ?_
  refine X_seq ?_
  refine T_cond_true rfl ?_
  refine T_seq ?_
  refine T_region ?_
  refine S_val rfl rfl (Y_move rfl) ?_
  refine S_val rfl rfl (Y_loadAI 0 (und rfl) rfl rfl rfl (siz rfl) (dl_length _ _ _)) ?_
  refine S_val rfl rfl (Y_loadAI 1 (und rfl) rfl rfl rfl (siz rfl) (dl_length _ _ _)) ?_
  refine S_val rfl rfl (Y_loadAI 2 (und rfl) rfl rfl rfl (siz rfl) (dl_length _ _ _)) ?_
  refine S_callV rfl rfl (bod rfl) (fun w hs => ct _) rfl rfl ?_
  refine S_storeAI 3 (siz rfl) rfl rfl rfl rfl (dl_length _ _ _) rfl ?_
  refine S_val rfl rfl (Y_assign rfl) ?_
  refine S_nil ?_
  refine X_seq ?_
  refine T_ret ?_
  refine X_seq_ret ?_
  ((first | refine X_fin_ret ?_ | refine X_fin ?_); exact ⟨[_, _], [], .cons (.agg 3 rfl (und rfl) rfl rfl (siz rfl)) (.cons (.tmp rfl) .nil), Emb.nil _, rfl, rfl⟩)
theorem rdo_3 (a b c : Nat) (ha : a < 2 ^ 256) (hb : b < 2 ^ 256) (hc : c < 2 ^ 256) (w : World) : Fn Tryz.prog 5 #[.int .u8 3, W a, W b, W c] w fun v N => v = .tuple #[W ((a + 2 ^ 256 - b) % 2 ^ 256), .bool true] ∧ N = [] := by
  have tk := rtakes_any 3
  rw [show tkN 3 = 2 by decide] at tk
  have ct := low_3 a b c ha hb hc
  generalize (a + 2 ^ 256 - b) % 2 ^ 256 = z at *
  refine Fn_of (args := [.int .u8 3, W a, W b, W c]) Tryz.func5 rfl Tryz.ntmps5 Tryz.results5 (by simp) ?_
  refine T_seq ?_
  refine T_region ?_
  refine S_boxA rfl rfl rfl fun _ => ?_
  refine S_boxA rfl rfl rfl fun _ => ?_
  refine S_boxA rfl rfl rfl fun _ => ?_
  refine S_allocA (zer rfl) rfl rfl fun _ => ?_
  refine S_val rfl rfl (Y_assign rfl) ?_
  refine S_nil ?_
  refine X_seq ?_
  refine T_seq ?_
  refine T_seq ?_
  refine T_region ?_
  refine S_val rfl rfl (Y_move rfl) ?_
  refine S_callV rfl rfl (bod rfl) (fun w hs => tk _) rfl rfl ?_
  refine S_val rfl rfl (Y_eql_f rfl rfl (by decide)) ?_
  refine S_nil ?_
  refine X_seq ?_
  refine T_cond_false rfl ?_
  refine T_skip ?_
  refine X_seq ?_
  refine T_seq ?_
  refine T_seq ?_
  refine T_region ?_
  refine S_val rfl rfl (Y_move rfl) ?_
  refine S_val rfl rfl (Y_lss_t rfl rfl (by decide)) ?_
  refine S_nil ?_
  refine X_seq ?_
  refine T_cond_true rfl ?_
  refine T_seq ?_
  refine T_region ?_
  refine S_val rfl rfl (Y_move rfl) ?_
  refine S_val rfl rfl (Y_loadAI 0 (und rfl) rfl rfl rfl (siz rfl) (dl_length _ _ _)) ?_
  refine S_val rfl rfl (Y_loadAI 1 (und rfl) rfl rfl rfl (siz rfl) (dl_length _ _ _)) ?_
  refine S_val rfl rfl (Y_loadAI 2 (und rfl) rfl rfl rfl (siz rfl) (dl_length _ _ _)) ?_
  refine S_callV rfl rfl (bod rfl) (fun w hs => ct _) rfl rfl ?_
  refine S_storeAI 3 (siz rfl) rfl rfl rfl rfl (dl_length _ _ _) rfl ?_
  refine S_val rfl rfl (Y_assign rfl) ?_
  refine S_nil ?_
  refine X_seq ?_
  refine T_ret ?_
  refine X_seq_ret ?_
  ((first | refine X_fin_ret ?_ | refine X_fin ?_); exact ⟨[_, _], [], .cons (.agg 3 rfl (und rfl) rfl rfl (siz rfl)) (.cons (.tmp rfl) .nil), Emb.nil _, rfl, rfl⟩)
theorem rdo_4 (a b c : Nat) (ha : a < 2 ^ 256) (hb : b < 2 ^ 256) (hc : c < 2 ^ 256) (w : World) : Fn Tryz.prog 5 #[.int .u8 4, W a, W b, W c] w fun v N => v = .tuple #[W (a / b), .bool true] ∧ N = [] := by
  have tk := rtakes_any 4
  rw [show tkN 4 = 2 by decide] at tk
  have ct := low_4 a b c ha hb hc
  generalize a / b = z at *
  refine Fn_of (args := [.int .u8 4, W a, W b, W c]) Tryz.func5 rfl Tryz.ntmps5 Tryz.results5 (by simp) ?_
  refine T_seq ?_
  refine T_region ?_
  refine S_boxA rfl rfl rfl fun _ => ?_
  refine S_boxA rfl rfl rfl fun _ => ?_
  refine S_boxA rfl rfl rfl fun _ => ?_
  refine S_allocA (zer rfl) rfl rfl fun _ => ?_
  refine S_val rfl rfl (Y_assign rfl) ?_
  refine S_nil ?_
  refine X_seq ?_
  refine T_seq ?_
  refine T_seq ?_
  refine T_region ?_
  refine S_val rfl rfl (Y_move rfl) ?_
  refine S_callV rfl rfl (bod rfl) (fun w hs => tk _) rfl rfl ?_
  refine S_val rfl rfl (Y_eql_f rfl rfl (by decide)) ?_
  refine S_nil ?_
  refine X_seq ?_
  refine T_cond_false rfl ?_
  refine T_skip ?_
  refine X_seq ?_
  refine T_seq ?_
  refine T_seq ?_
  refine T_region ?_
  refine S_val rfl rfl (Y_move rfl) ?_
  refine S_val rfl rfl (Y_lss_t rfl rfl (by decide)) ?_
  refine S_nil ?_
  refine X_seq ?_
  refine T_cond_true rfl ?_
  refine T_seq ?_
  refine T_region ?_
  refine S_val rfl rfl (Y_move rfl) ?_
  refine S_val rfl rfl (Y_loadAI 0 (und rfl) rfl rfl rfl (siz rfl) (dl_length _ _ _)) ?_
  refine S_val rfl rfl (Y_loadAI 1 (und rfl) rfl rfl rfl (siz rfl) (dl_length _ _ _)) ?_
  refine S_val rfl rfl (Y_loadAI 2 (und rfl) rfl rfl rfl (siz rfl) (dl_length _ _ _)) ?_
  refine S_callV rfl rfl (bod rfl) (fun w hs => ct _) rfl rfl ?_
  refine S_storeAI 3 (siz rfl) rfl rfl rfl rfl (dl_length _ _ _) rfl ?_
  refine S_val rfl rfl (Y_assign rfl) ?_
  refine S_nil ?_
  refine X_seq ?_
  refine T_ret ?_
  refine X_seq_ret ?_
  ((first | refine X_fin_ret ?_ | refine X_fin ?_); exact ⟨[_, _], [], .cons (.agg 3 rfl (und rfl) rfl rfl (siz rfl)) (.cons (.tmp rfl) .nil), Emb.nil _, rfl, rfl⟩)
theorem rdo_5 (a b c : Nat) (ha : a < 2 ^ 256) (hb : b < 2 ^ 256) (hc : c < 2 ^ 256) (w : World) : Fn Tryz.prog 5 #[.int .u8 5, W a, W b, W c] w fun v N => v = .tuple #[W (sdq (sgn a) (sgn b) (absN a / absN b)), .bool true] ∧ N = [] := by
  have tk := rtakes_any 5
  rw [show tkN 5 = 2 by decide] at tk
  have ct := low_5 a b c ha hb hc
  generalize sdq (sgn a) (sgn b) (absN a / absN b) = z at *
  refine Fn_of (args := [.int .u8 5, W a, W b, W c]) Tryz.func5 rfl Tryz.ntmps5 Tryz.results5 (by simp) ?_
  refine T_seq ?_
  refine T_region ?_
  refine S_boxA rfl rfl rfl fun _ => ?_
  refine S_boxA rfl rfl rfl fun _ => ?_
  refine S_boxA rfl rfl rfl fun _ => ?_
  refine S_allocA (zer rfl) rfl rfl fun _ => ?_
  refine S_val rfl rfl (Y_assign rfl) ?_
  refine S_nil ?_
  refine X_seq ?_
  refine T_seq ?_
  refine T_seq ?_
  refine T_region ?_
  refine S_val rfl rfl (Y_move rfl) ?_
  refine S_callV rfl rfl (bod rfl) (fun w hs => tk _) rfl rfl ?_
  refine S_val rfl rfl (Y_eql_f rfl rfl (by decide)) ?_
  refine S_nil ?_
  refine X_seq ?_
  refine T_cond_false rfl ?_
  refine T_skip ?_
  refine X_seq ?_
  refine T_seq ?_
  refine T_seq ?_
  refine T_region ?_
  refine S_val rfl rfl (Y_move rfl) ?_
  refine S_val rfl rfl (Y_lss_t rfl rfl (by decide)) ?_
  refine S_nil ?_
  refine X_seq ?_
  refine T_cond_true rfl ?_
  refine T_seq ?_
  refine T_region ?_
  refine S_val rfl rfl (Y_move rfl) ?_
  refine S_val rfl rfl (Y_loadAI 0 (und rfl) rfl rfl rfl (siz rfl) (dl_length _ _ _)) ?_
  refine S_val rfl rfl (Y_loadAI 1 (und rfl) rfl rfl rfl (siz rfl) (dl_length _ _ _)) ?_
  refine S_val rfl rfl (Y_loadAI 2 (und rfl) rfl rfl rfl (siz rfl) (dl_length _ _ _)) ?_
  refine S_callV rfl rfl (bod rfl) (fun w hs => ct _) rfl rfl ?_
  refine S_storeAI 3 (siz rfl) rfl rfl rfl rfl (dl_length _ _ _) rfl ?_
  refine S_val rfl rfl (Y_assign rfl) ?_
  refine S_nil ?_
  refine X_seq ?_
  refine T_ret ?_
  refine X_seq_ret ?_
  ((first | refine X_fin_ret ?_ | refine X_fin ?_); exact ⟨[_, _], [], .cons (.agg 3 rfl (und rfl) rfl rfl (siz rfl)) (.cons (.tmp rfl) .nil), Emb.nil _, rfl, rfl⟩)
theorem rdo_6 (a b c : Nat) (ha : a < 2 ^ 256) (hb : b < 2 ^ 256) (hc : c < 2 ^ 256) (w : World) : Fn Tryz.prog 5 #[.int .u8 6, W a, W b, W c] w fun v N => v = .tuple #[W (remN a b), .bool true] ∧ N = [] := by
  have tk := rtakes_any 6
  rw [show tkN 6 = 2 by decide] at tk
  have ct := low_6 a b c ha hb hc
  generalize remN a b = z at *
  refine Fn_of (args := [.int .u8 6, W a, W b, W c]) Tryz.func5 rfl Tryz.ntmps5 Tryz.results5 (by simp) ?_
  refine T_seq ?_
  refine T_region ?_
  refine S_boxA rfl rfl rfl fun _ => ?_
  refine S_boxA rfl rfl rfl fun _ => ?_
  refine S_boxA rfl rfl rfl fun _ => ?_
  refine S_allocA (zer rfl) rfl rfl fun _ => ?_
  refine S_val rfl rfl (Y_assign rfl) ?_
  refine S_nil ?_
  refine X_seq ?_
  refine T_seq ?_
  refine T_seq ?_
  refine T_region ?_
  refine S_val rfl rfl (Y_move rfl) ?_
  refine S_callV rfl rfl (bod rfl) (fun w hs => tk _) rfl rfl ?_
  refine S_val rfl rfl (Y_eql_f rfl rfl (by decide)) ?_
  refine S_nil ?_
  refine X_seq ?_
  refine T_cond_false rfl ?_
  refine T_skip ?_
  refine X_seq ?_
  refine T_seq ?_
  refine T_seq ?_
  refine T_region ?_
  refine S_val rfl rfl (Y_move rfl) ?_
  refine S_val rfl rfl (Y_lss_t rfl rfl (by decide)) ?_
  refine S_nil ?_
  refine X_seq ?_
  refine T_cond_true rfl ?_
  refine T_seq ?_
  refine T_region ?_
  refine S_val rfl rfl (Y_move rfl) ?_
  refine S_val rfl rfl (Y_loadAI 0 (und rfl) rfl rfl rfl (siz rfl) (dl_length _ _ _)) ?_
  refine S_val rfl rfl (Y_loadAI 1 (und rfl) rfl rfl rfl (siz rfl) (dl_length _ _ _)) ?_
  refine S_val rfl rfl (Y_loadAI 2 (und rfl) rfl rfl rfl (siz rfl) (dl_length _ _ _)) ?_
  refine S_callV rfl rfl (bod rfl) (fun w hs => ct _) rfl rfl ?_
  refine S_storeAI 3 (siz rfl) rfl rfl rfl rfl (dl_length _ _ _) rfl ?_
  refine S_val rfl rfl (Y_assign rfl) ?_
  refine S_nil ?_
  refine X_seq ?_
  refine T_ret ?_
  refine X_seq_ret ?_
  ((first | refine X_fin_ret ?_ | refine X_fin ?_); exact ⟨[_, _], [], .cons (.agg 3 rfl (und rfl) rfl rfl (siz rfl)) (.cons (.tmp rfl) .nil), Emb.nil _, rfl, rfl⟩)
theorem rdo_7 (a b c : Nat) (ha : a < 2 ^ 256) (hb : b < 2 ^ 256) (hc : c < 2 ^ 256) (w : World) : Fn Tryz.prog 5 #[.int .u8 7, W a, W b, W c] w fun v N => v = .tuple #[W (sdr (sgn a) (remN (absN a) (absN b))), .bool true] ∧ N = [] := by
  have tk := rtakes_any 7
  rw [show tkN 7 = 2 by decide] at tk
  have ct := low_7 a b c ha hb hc
  generalize sdr (sgn a) (remN (absN a) (absN b)) = z at *
  refine Fn_of (args := [.int .u8 7, W a, W b, W c]) Tryz.func5 rfl Tryz.ntmps5 Tryz.results5 (by simp) ?_
  refine T_seq ?_
  refine T_region ?_
  refine S_boxA rfl rfl rfl fun _ => ?_
  refine S_boxA rfl rfl rfl fun _ => ?_
  refine S_boxA rfl rfl rfl fun _ => ?_
  refine S_allocA (zer rfl) rfl rfl fun _ => ?_
  refine S_val rfl rfl (Y_assign rfl) ?_
  refine S_nil ?_
  refine X_seq ?_
  refine T_seq ?_
  refine T_seq ?_
  refine T_region ?_
  refine S_val rfl rfl (Y_move rfl) ?_
  refine S_callV rfl rfl (bod rfl) (fun w hs => tk _) rfl rfl ?_
  refine S_val rfl rfl (Y_eql_f rfl rfl (by decide)) ?_
  refine S_nil ?_
  refine X_seq ?_
  refine T_cond_false rfl ?_
  refine T_skip ?_
  refine X_seq ?_
  refine T_seq ?_
  refine T_seq ?_
  refine T_region ?_
  refine S_val rfl rfl (Y_move rfl) ?_
  refine S_val rfl rfl (Y_lss_t rfl rfl (by decide)) ?_
  refine S_nil ?_
  refine X_seq ?_
  refine T_cond_true rfl ?_
  refine T_seq ?_
  refine T_region ?_
  refine S_val rfl rfl (Y_move rfl) ?_
  refine S_val rfl rfl (Y_loadAI 0 (und rfl) rfl rfl rfl (siz rfl) (dl_length _ _ _)) ?_
  refine S_val rfl rfl (Y_loadAI 1 (und rfl) rfl rfl rfl (siz rfl) (dl_length _ _ _)) ?_
  refine S_val rfl rfl (Y_loadAI 2 (und rfl) rfl rfl rfl (siz rfl) (dl_length _ _ _)) ?_
  refine S_callV rfl rfl (bod rfl) (fun w hs => ct _) rfl rfl ?_
  refine S_storeAI 3 (siz rfl) rfl rfl rfl rfl (dl_length _ _ _) rfl ?_
  refine S_val rfl rfl (Y_assign rfl) ?_
  refine S_nil ?_
  refine X_seq ?_
  refine T_ret ?_
  refine X_seq_ret ?_
  ((first | refine X_fin_ret ?_ | refine X_fin ?_); exact ⟨[_, _], [], .cons (.agg 3 rfl (und rfl) rfl rfl (siz rfl)) (.cons (.tmp rfl) .nil), Emb.nil _, rfl, rfl⟩)
theorem rdo_8 (a b c : Nat) (ha : a < 2 ^ 256) (hb : b < 2 ^ 256) (hc : c < 2 ^ 256) (w : World) : Fn Tryz.prog 5 #[.int .u8 8, W a, W b, W c] w fun v N => v = .tuple #[W (remN (a + b) c), .bool true] ∧ N = [] := by
  have tk := rtakes_any 8
  rw [show tkN 8 = 3 by decide] at tk
  have ct := low_8 a b c ha hb hc
  generalize remN (a + b) c = z at *
  refine Fn_of (args := [.int .u8 8, W a, W b, W c]) Tryz.func5 rfl Tryz.ntmps5 Tryz.results5 (by simp) ?_
  refine T_seq ?_
  refine T_region ?_
  refine S_boxA rfl rfl rfl fun _ => ?_
  refine S_boxA rfl rfl rfl fun _ => ?_
  refine S_boxA rfl rfl rfl fun _ => ?_
  refine S_allocA (zer rfl) rfl rfl fun _ => ?_
  refine S_val rfl rfl (Y_assign rfl) ?_
  refine S_nil ?_
  refine X_seq ?_
  refine T_seq ?_
  refine T_seq ?_
  refine T_region ?_
  refine S_val rfl rfl (Y_move rfl) ?_
  refine S_callV rfl rfl (bod rfl) (fun w hs => tk _) rfl rfl ?_
  refine S_val rfl rfl (Y_eql_f rfl rfl (by decide)) ?_
  refine S_nil ?_
  refine X_seq ?_
  refine T_cond_false rfl ?_
  refine T_skip ?_
  refine X_seq ?_
  refine T_seq ?_
  refine T_seq ?_
  refine T_region ?_
  refine S_val rfl rfl (Y_move rfl) ?_
  refine S_val rfl rfl (Y_lss_t rfl rfl (by decide)) ?_
  refine S_nil ?_
  refine X_seq ?_
  refine T_cond_true rfl ?_
  refine T_seq ?_
  refine T_region ?_
  refine S_val rfl rfl (Y_move rfl) ?_
  refine S_val rfl rfl (Y_loadAI 0 (und rfl) rfl rfl rfl (siz rfl) (dl_length _ _ _)) ?_
  refine S_val rfl rfl (Y_loadAI 1 (und rfl) rfl rfl rfl (siz rfl) (dl_length _ _ _)) ?_
  refine S_val rfl rfl (Y_loadAI 2 (und rfl) rfl rfl rfl (siz rfl) (dl_length _ _ _)) ?_
  refine S_callV rfl rfl (bod rfl) (fun w hs => ct _) rfl rfl ?_
  refine S_storeAI 3 (siz rfl) rfl rfl rfl rfl (dl_length _ _ _) rfl ?_
  refine S_val rfl rfl (Y_assign rfl) ?_
  refine S_nil ?_
  refine X_seq ?_
  refine T_ret ?_
  refine X_seq_ret ?_
  ((first | refine X_fin_ret ?_ | refine X_fin ?_); exact ⟨[_, _], [], .cons (.agg 3 rfl (und rfl) rfl rfl (siz rfl)) (.cons (.tmp rfl) .nil), Emb.nil _, rfl, rfl⟩)
theorem rdo_9 (a b c : Nat) (ha : a < 2 ^ 256) (hb : b < 2 ^ 256) (hc : c < 2 ^ 256) (w : World) : Fn Tryz.prog 5 #[.int .u8 9, W a, W b, W c] w fun v N => v = .tuple #[W (remN (a * b) c), .bool true] ∧ N = [] := by
  have tk := rtakes_any 9
  rw [show tkN 9 = 3 by decide] at tk
  have ct := low_9 a b c ha hb hc
  generalize remN (a * b) c = z at *
  refine Fn_of (args := [.int .u8 9, W a, W b, W c]) Tryz.func5 rfl Tryz.ntmps5 Tryz.results5 (by simp) ?_
  refine T_seq ?_
  refine T_region ?_
  refine S_boxA rfl rfl rfl fun _ => ?_
  refine S_boxA rfl rfl rfl fun _ => ?_
  refine S_boxA rfl rfl rfl fun _ => ?_
  refine S_allocA (zer rfl) rfl rfl fun _ => ?_
  refine S_val rfl rfl (Y_assign rfl) ?_
  refine S_nil ?_
  refine X_seq ?_
  refine T_seq ?_
  refine T_seq ?_
  refine T_region ?_
  refine S_val rfl rfl (Y_move rfl) ?_
  refine S_callV rfl rfl (bod rfl) (fun w hs => tk _) rfl rfl ?_
  refine S_val rfl rfl (Y_eql_f rfl rfl (by decide)) ?_
  refine S_nil ?_
  refine X_seq ?_
  refine T_cond_false rfl ?_
  refine T_skip ?_
  refine X_seq ?_
  refine T_seq ?_
  refine T_seq ?_
  refine T_region ?_
  refine S_val rfl rfl (Y_move rfl) ?_
  refine S_val rfl rfl (Y_lss_t rfl rfl (by decide)) ?_
  refine S_nil ?_
  refine X_seq ?_
  refine T_cond_true rfl ?_
  refine T_seq ?_
  refine T_region ?_
  refine S_val rfl rfl (Y_move rfl) ?_
  refine S_val rfl rfl (Y_loadAI 0 (und rfl) rfl rfl rfl (siz rfl) (dl_length _ _ _)) ?_
  refine S_val rfl rfl (Y_loadAI 1 (und rfl) rfl rfl rfl (siz rfl) (dl_length _ _ _)) ?_
  refine S_val rfl rfl (Y_loadAI 2 (und rfl) rfl rfl rfl (siz rfl) (dl_length _ _ _)) ?_
  refine S_callV rfl rfl (bod rfl) (fun w hs => ct _) rfl rfl ?_
  refine S_storeAI 3 (siz rfl) rfl rfl rfl rfl (dl_length _ _ _) rfl ?_
  refine S_val rfl rfl (Y_assign rfl) ?_
  refine S_nil ?_
  refine X_seq ?_
  refine T_ret ?_
  refine X_seq_ret ?_
  ((first | refine X_fin_ret ?_ | refine X_fin ?_); exact ⟨[_, _], [], .cons (.agg 3 rfl (und rfl) rfl rfl (siz rfl)) (.cons (.tmp rfl) .nil), Emb.nil _, rfl, rfl⟩)
theorem rdo_10 (a b c : Nat) (ha : a < 2 ^ 256) (hb : b < 2 ^ 256) (hc : c < 2 ^ 256) (w : World) : Fn Tryz.prog 5 #[.int .u8 10, W a, W b, W c] w fun v N => v = .tuple #[W (expN a b), .bool true] ∧ N = [] := by
  have tk := rtakes_any 10
  rw [show tkN 10 = 2 by decide] at tk
  have ct := low_10 a b c ha hb hc
  generalize expN a b = z at *
  refine Fn_of (args := [.int .u8 10, W a, W b, W c]) Tryz.func5 rfl Tryz.ntmps5 Tryz.results5 (by simp) ?_
  refine T_seq ?_
  refine T_region ?_
  refine S_boxA rfl rfl rfl fun _ => ?_
  refine S_boxA rfl rfl rfl fun _ => ?_
  refine S_boxA rfl rfl rfl fun _ => ?_
  refine S_allocA (zer rfl) rfl rfl fun _ => ?_
  refine S_val rfl rfl (Y_assign rfl) ?_
  refine S_nil ?_
  refine X_seq ?_
  refine T_seq ?_
  refine T_seq ?_
  refine T_region ?_
  refine S_val rfl rfl (Y_move rfl) ?_
  refine S_callV rfl rfl (bod rfl) (fun w hs => tk _) rfl rfl ?_
  refine S_val rfl rfl (Y_eql_f rfl rfl (by decide)) ?_
  refine S_nil ?_
  refine X_seq ?_
  refine T_cond_false rfl ?_
  refine T_skip ?_
  refine X_seq ?_
  refine T_seq ?_
  refine T_seq ?_
  refine T_region ?_
  refine S_val rfl rfl (Y_move rfl) ?_
  refine S_val rfl rfl (Y_lss_t rfl rfl (by decide)) ?_
  refine S_nil ?_
  refine X_seq ?_
  refine T_cond_true rfl ?_
  refine T_seq ?_
  refine T_region ?_
  refine S_val rfl rfl (Y_move rfl) ?_
  refine S_val rfl rfl (Y_loadAI 0 (und rfl) rfl rfl rfl (siz rfl) (dl_length _ _ _)) ?_
  refine S_val rfl rfl (Y_loadAI 1 (und rfl) rfl rfl rfl (siz rfl) (dl_length _ _ _)) ?_
  refine S_val rfl rfl (Y_loadAI 2 (und rfl) rfl rfl rfl (siz rfl) (dl_length _ _ _)) ?_
  refine S_callV rfl rfl (bod rfl) (fun w hs => ct _) rfl rfl ?_
  refine S_storeAI 3 (siz rfl) rfl rfl rfl rfl (dl_length _ _ _) rfl ?_
  refine S_val rfl rfl (Y_assign rfl) ?_
  refine S_nil ?_
  refine X_seq ?_
  refine T_ret ?_
  refine X_seq_ret ?_
  ((first | refine X_fin_ret ?_ | refine X_fin ?_); exact ⟨[_, _], [], .cons (.agg 3 rfl (und rfl) rfl rfl (siz rfl)) (.cons (.tmp rfl) .nil), Emb.nil _, rfl, rfl⟩)
theorem rdo_11 (a b c : Nat) (ha : a < 2 ^ 256) (hb : b < 2 ^ 256) (hc : c < 2 ^ 256) (w : World) : Fn Tryz.prog 5 #[.int .u8 11, W a, W b, W c] w fun v N => v = .tuple #[W (extN a b), .bool true] ∧ N = [] := by
  have tk := rtakes_any 11
  rw [show tkN 11 = 2 by decide] at tk
  have ct := low_11 a b c ha hb hc
  generalize extN a b = z at *
  refine Fn_of (args := [.int .u8 11, W a, W b, W c]) Tryz.func5 rfl Tryz.ntmps5 Tryz.results5 (by simp) ?_
  refine T_seq ?_
  refine T_region ?_
  refine S_boxA rfl rfl rfl fun _ => ?_
  refine S_boxA rfl rfl rfl fun _ => ?_
  refine S_boxA rfl rfl rfl fun _ => ?_
  refine S_allocA (zer rfl) rfl rfl fun _ => ?_
  refine S_val rfl rfl (Y_assign rfl) ?_
  refine S_nil ?_
  refine X_seq ?_
  refine T_seq ?_
  refine T_seq ?_
  refine T_region ?_
  refine S_val rfl rfl (Y_move rfl) ?_
  refine S_callV rfl rfl (bod rfl) (fun w hs => tk _) rfl rfl ?_
  refine S_val rfl rfl (Y_eql_f rfl rfl (by decide)) ?_
  refine S_nil ?_
  refine X_seq ?_
  refine T_cond_false rfl ?_
  refine T_skip ?_
  refine X_seq ?_
  refine T_seq ?_
  refine T_seq ?_
  refine T_region ?_
  refine S_val rfl rfl (Y_move rfl) ?_
  refine S_val rfl rfl (Y_lss_t rfl rfl (by decide)) ?_
  refine S_nil ?_
  refine X_seq ?_
  refine T_cond_true rfl ?_
  refine T_seq ?_
  refine T_region ?_
  refine S_val rfl rfl (Y_move rfl) ?_
  refine S_val rfl rfl (Y_loadAI 0 (und rfl) rfl rfl rfl (siz rfl) (dl_length _ _ _)) ?_
  refine S_val rfl rfl (Y_loadAI 1 (und rfl) rfl rfl rfl (siz rfl) (dl_length _ _ _)) ?_
  refine S_val rfl rfl (Y_loadAI 2 (und rfl) rfl rfl rfl (siz rfl) (dl_length _ _ _)) ?_
  refine S_callV rfl rfl (bod rfl) (fun w hs => ct _) rfl rfl ?_
  refine S_storeAI 3 (siz rfl) rfl rfl rfl rfl (dl_length _ _ _) rfl ?_
  refine S_val rfl rfl (Y_assign rfl) ?_
  refine S_nil ?_
  refine X_seq ?_
  refine T_ret ?_
  refine X_seq_ret ?_
  ((first | refine X_fin_ret ?_ | refine X_fin ?_); exact ⟨[_, _], [], .cons (.agg 3 rfl (und rfl) rfl rfl (siz rfl)) (.cons (.tmp rfl) .nil), Emb.nil _, rfl, rfl⟩)
theorem rdo_16 (a b c : Nat) (ha : a < 2 ^ 256) (hb : b < 2 ^ 256) (hc : c < 2 ^ 256) (w : World) : Fn Tryz.prog 5 #[.int .u8 16, W a, W b, W c] w fun v N => v = .tuple #[W (bN (decide (a < b))), .bool true] ∧ N = [] := by
  have tk := rtakes_any 16
  rw [show tkN 16 = 2 by decide] at tk
  obtain ⟨O, hO⟩ : ∃ o, 2 ^ 256 - 1 = o := ⟨_, rfl⟩
  have ng := rneg_any 1 (by omega)
  rw [show (2 ^ 256 - 1) % 2 ^ 256 = O by omega, ← d_one] at ng
  have cm := rcompare_any a b ha hb
  have e : decide (cmpI a b < 0) = decide (a < b) := by
    unfold cmpI
    by_cases h : a < b
    · rw [if_pos h]; exact decide_eq_decide.2 ⟨fun _ => by omega, fun _ => by omega⟩
    · rw [if_neg h]
      by_cases h2 : a = b
      · rw [if_pos h2]; exact decide_eq_decide.2 ⟨fun _ => by omega, fun _ => by omega⟩
      · rw [if_neg h2]; exact decide_eq_decide.2 ⟨fun _ => by omega, fun _ => by omega⟩
  generalize cmpI a b = z at *
  clear hO
  refine Fn_of (args := [.int .u8 16, W a, W b, W c]) Tryz.func5 rfl Tryz.ntmps5 Tryz.results5 (by simp) ?_
  refine T_seq ?_
  refine T_region ?_
  refine S_boxA rfl rfl rfl fun _ => ?_
  refine S_boxA rfl rfl rfl fun _ => ?_
  refine S_boxA rfl rfl rfl fun _ => ?_
  refine S_allocA (zer rfl) rfl rfl fun _ => ?_
  refine S_val rfl rfl (Y_assign rfl) ?_
  refine S_nil ?_
  refine X_seq ?_
  refine T_seq ?_
  refine T_seq ?_
  refine T_region ?_
  refine S_val rfl rfl (Y_move rfl) ?_
  refine S_callV rfl rfl (bod rfl) (fun w hs => tk _) rfl rfl ?_
  refine S_val rfl rfl (Y_eql_f rfl rfl (by decide)) ?_
  refine S_nil ?_
  refine X_seq ?_
  refine T_cond_false rfl ?_
  refine T_skip ?_
  refine X_seq ?_
  refine T_seq ?_
  refine T_seq ?_
  refine T_region ?_
  refine S_val rfl rfl (Y_move rfl) ?_
  refine S_val rfl rfl (Y_lss_f rfl rfl (by decide)) ?_
  refine S_nil ?_
  refine X_seq ?_
  refine T_cond_false rfl ?_
  refine T_skip ?_
  refine X_seq ?_
  refine T_seq ?_
  refine T_region ?_
  refine S_val rfl rfl (Y_loadAI 0 (und rfl) rfl rfl rfl (siz rfl) (dl_length _ _ _)) ?_
  refine S_callV rfl rfl (bod rfl) (fun w hs => rof_any a _) rfl rfl ?_
  refine S_allocA (zer rfl) rfl rfl fun _ => ?_
  refine S_storeAI 4 (siz rfl) rfl rfl rfl rfl (dl_length _ _ _) rfl ?_
  refine S_nil ?_
  refine X_seq ?_
  refine T_seq ?_
  refine T_region ?_
  refine S_val rfl rfl (Y_loadAI 1 (und rfl) rfl rfl rfl (siz rfl) (dl_length _ _ _)) ?_
  refine S_callV rfl rfl (bod rfl) (fun w hs => rof_any b _) rfl rfl ?_
  refine S_allocA (zer rfl) rfl rfl fun _ => ?_
  refine S_storeAI 5 (siz rfl) rfl rfl rfl rfl (dl_length _ _ _) rfl ?_
  refine S_nil ?_
  refine X_seq ?_
  refine T_seq ?_
  refine T_region ?_
  refine S_val rfl rfl (Y_build (und rfl) (siz rfl) (zer rfl) rfl rfl) ?_
  refine S_callV rfl rfl (bod rfl) (fun w hs => ng _) rfl rfl ?_
  refine S_allocA (zer rfl) rfl rfl fun _ => ?_
  refine S_storeAI 6 (siz rfl) rfl rfl rfl rfl (dl_length _ _ _) rfl ?_
  refine S_nil ?_
  refine X_seq ?_
  refine T_seq ?_
  refine T_seq ?_
  refine T_region ?_
  refine S_val rfl rfl (Y_move rfl) ?_
  refine S_nil ?_
  refine X_seq ?_
  refine T_block ?_
  refine T_seq ?_
  refine T_region ?_
  refine S_val rfl rfl (Y_eql_t rfl rfl (by decide)) ?_
  refine S_val rfl rfl (Y_assign rfl) ?_
  refine S_nil ?_
  refine X_seq ?_
  refine T_cond_true rfl ?_
  refine T_seq ?_
  refine T_region ?_
  refine S_val rfl rfl (Y_loadAI 4 (und rfl) rfl rfl rfl (siz rfl) (dl_length _ _ _)) ?_
  refine S_val rfl rfl (Y_loadAI 5 (und rfl) rfl rfl rfl (siz rfl) (dl_length _ _ _)) ?_
  refine S_callV rfl rfl (bod rfl) (fun w hs => cm _) rfl rfl ?_
  refine S_val rfl rfl (Y_lss rfl rfl) ?_
  refine S_callV rfl rfl (bod rfl) (fun w hs => rtruth17_any _ _) rfl rfl ?_
  refine S_storeAI 3 (siz rfl) rfl rfl rfl rfl (dl_length _ _ _) rfl ?_
  refine S_val rfl rfl (Y_assign rfl) ?_
  refine S_nil ?_
  refine X_seq ?_
  refine T_ret ?_
  refine X_blk_ret ?_
  refine X_seq_ret ?_
  ((first | refine X_fin_ret ?_ | refine X_fin ?_); exact ⟨[_, _], [], .cons (.agg 3 rfl (und rfl) rfl rfl (siz rfl)) (.cons (.tmp rfl) .nil), Emb.nil _, by rw [← e]; rfl, rfl⟩)
theorem rdo_17 (a b c : Nat) (ha : a < 2 ^ 256) (hb : b < 2 ^ 256) (hc : c < 2 ^ 256) (w : World) : Fn Tryz.prog 5 #[.int .u8 17, W a, W b, W c] w fun v N => v = .tuple #[W (bN (decide (b < a))), .bool true] ∧ N = [] := by
  have tk := rtakes_any 17
  rw [show tkN 17 = 2 by decide] at tk
  obtain ⟨O, hO⟩ : ∃ o, 2 ^ 256 - 1 = o := ⟨_, rfl⟩
  have ng := rneg_any 1 (by omega)
  rw [show (2 ^ 256 - 1) % 2 ^ 256 = O by omega, ← d_one] at ng
  have cm := rcompare_any a b ha hb
  have e : decide (0 < cmpI a b) = decide (b < a) := by
    unfold cmpI
    by_cases h : a < b
    · rw [if_pos h]; exact decide_eq_decide.2 ⟨fun _ => by omega, fun _ => by omega⟩
    · rw [if_neg h]
      by_cases h2 : a = b
      · rw [if_pos h2]; exact decide_eq_decide.2 ⟨fun _ => by omega, fun _ => by omega⟩
      · rw [if_neg h2]; exact decide_eq_decide.2 ⟨fun _ => by omega, fun _ => by omega⟩
  generalize cmpI a b = z at *
  clear hO
  refine Fn_of (args := [.int .u8 17, W a, W b, W c]) Tryz.func5 rfl Tryz.ntmps5 Tryz.results5 (by simp) ?_
  refine T_seq ?_
  refine T_region ?_
  refine S_boxA rfl rfl rfl fun _ => ?_
  refine S_boxA rfl rfl rfl fun _ => ?_
  refine S_boxA rfl rfl rfl fun _ => ?_
  refine S_allocA (zer rfl) rfl rfl fun _ => ?_
  refine S_val rfl rfl (Y_assign rfl) ?_
  refine S_nil ?_
  refine X_seq ?_
  refine T_seq ?_
  refine T_seq ?_
  refine T_region ?_
  refine S_val rfl rfl (Y_move rfl) ?_
  refine S_callV rfl rfl (bod rfl) (fun w hs => tk _) rfl rfl ?_
  refine S_val rfl rfl (Y_eql_f rfl rfl (by decide)) ?_
  refine S_nil ?_
  refine X_seq ?_
  refine T_cond_false rfl ?_
  refine T_skip ?_
  refine X_seq ?_
  refine T_seq ?_
  refine T_seq ?_
  refine T_region ?_
  refine S_val rfl rfl (Y_move rfl) ?_
  refine S_val rfl rfl (Y_lss_f rfl rfl (by decide)) ?_
  refine S_nil ?_
  refine X_seq ?_
  refine T_cond_false rfl ?_
  refine T_skip ?_
  refine X_seq ?_
  refine T_seq ?_
  refine T_region ?_
  refine S_val rfl rfl (Y_loadAI 0 (und rfl) rfl rfl rfl (siz rfl) (dl_length _ _ _)) ?_
  refine S_callV rfl rfl (bod rfl) (fun w hs => rof_any a _) rfl rfl ?_
  refine S_allocA (zer rfl) rfl rfl fun _ => ?_
  refine S_storeAI 4 (siz rfl) rfl rfl rfl rfl (dl_length _ _ _) rfl ?_
  refine S_nil ?_
  refine X_seq ?_
  refine T_seq ?_
  refine T_region ?_
  refine S_val rfl rfl (Y_loadAI 1 (und rfl) rfl rfl rfl (siz rfl) (dl_length _ _ _)) ?_
  refine S_callV rfl rfl (bod rfl) (fun w hs => rof_any b _) rfl rfl ?_
  refine S_allocA (zer rfl) rfl rfl fun _ => ?_
  refine S_storeAI 5 (siz rfl) rfl rfl rfl rfl (dl_length _ _ _) rfl ?_
  refine S_nil ?_
  refine X_seq ?_
  refine T_seq ?_
  refine T_region ?_
  refine S_val rfl rfl (Y_build (und rfl) (siz rfl) (zer rfl) rfl rfl) ?_
  refine S_callV rfl rfl (bod rfl) (fun w hs => ng _) rfl rfl ?_
  refine S_allocA (zer rfl) rfl rfl fun _ => ?_
  refine S_storeAI 6 (siz rfl) rfl rfl rfl rfl (dl_length _ _ _) rfl ?_
  refine S_nil ?_
  refine X_seq ?_
  refine T_seq ?_
  refine T_seq ?_
  refine T_region ?_
  refine S_val rfl rfl (Y_move rfl) ?_
  refine S_nil ?_
  refine X_seq ?_
  refine T_block ?_
  refine T_seq ?_
  refine T_region ?_
  refine S_val rfl rfl (Y_eql_f rfl rfl (by decide)) ?_
  refine S_val rfl rfl (Y_assign rfl) ?_
  refine S_nil ?_
  refine X_seq ?_
  refine T_cond_false rfl ?_
  refine T_seq ?_
  refine T_region ?_
  refine S_val rfl rfl (Y_eql_t rfl rfl (by decide)) ?_
  refine S_val rfl rfl (Y_assign rfl) ?_
  refine S_nil ?_
  refine X_seq ?_
  refine T_cond_true rfl ?_
  refine T_seq ?_
  refine T_region ?_
  refine S_val rfl rfl (Y_loadAI 4 (und rfl) rfl rfl rfl (siz rfl) (dl_length _ _ _)) ?_
  refine S_val rfl rfl (Y_loadAI 5 (und rfl) rfl rfl rfl (siz rfl) (dl_length _ _ _)) ?_
  refine S_callV rfl rfl (bod rfl) (fun w hs => cm _) rfl rfl ?_
  refine S_val rfl rfl (Y_gtr rfl rfl) ?_
  refine S_callV rfl rfl (bod rfl) (fun w hs => rtruth17_any _ _) rfl rfl ?_
  refine S_storeAI 3 (siz rfl) rfl rfl rfl rfl (dl_length _ _ _) rfl ?_
  refine S_val rfl rfl (Y_assign rfl) ?_
  refine S_nil ?_
  refine X_seq ?_
  refine T_ret ?_
  refine X_blk_ret ?_
  refine X_seq_ret ?_
  ((first | refine X_fin_ret ?_ | refine X_fin ?_); exact ⟨[_, _], [], .cons (.agg 3 rfl (und rfl) rfl rfl (siz rfl)) (.cons (.tmp rfl) .nil), Emb.nil _, by rw [← e]; rfl, rfl⟩)
theorem rdo_18 (a b c : Nat) (ha : a < 2 ^ 256) (hb : b < 2 ^ 256) (hc : c < 2 ^ 256) (w : World) : Fn Tryz.prog 5 #[.int .u8 18, W a, W b, W c] w fun v N => v = .tuple #[W (bN (slt a b)), .bool true] ∧ N = [] := by
  have tk := rtakes_any 18
  rw [show tkN 18 = 2 by decide] at tk
  obtain ⟨O, hO⟩ : ∃ o, 2 ^ 256 - 1 = o := ⟨_, rfl⟩
  have ng := rneg_any 1 (by omega)
  rw [show (2 ^ 256 - 1) % 2 ^ 256 = O by omega, ← d_one] at ng
  have sl := rless3_any a b
  generalize slt a b = z at *
  clear hO
  refine Fn_of (args := [.int .u8 18, W a, W b, W c]) Tryz.func5 rfl Tryz.ntmps5 Tryz.results5 (by simp) ?_
  refine T_seq ?_
  refine T_region ?_
  refine S_boxA rfl rfl rfl fun _ => ?_
  refine S_boxA rfl rfl rfl fun _ => ?_
  refine S_boxA rfl rfl rfl fun _ => ?_
  refine S_allocA (zer rfl) rfl rfl fun _ => ?_
  refine S_val rfl rfl (Y_assign rfl) ?_
  refine S_nil ?_
  refine X_seq ?_
  refine T_seq ?_
  refine T_seq ?_
  refine T_region ?_
  refine S_val rfl rfl (Y_move rfl) ?_
  refine S_callV rfl rfl (bod rfl) (fun w hs => tk _) rfl rfl ?_
  refine S_val rfl rfl (Y_eql_f rfl rfl (by decide)) ?_
  refine S_nil ?_
  refine X_seq ?_
  refine T_cond_false rfl ?_
  refine T_skip ?_
  refine X_seq ?_
  refine T_seq ?_
  refine T_seq ?_
  refine T_region ?_
  refine S_val rfl rfl (Y_move rfl) ?_
  refine S_val rfl rfl (Y_lss_f rfl rfl (by decide)) ?_
  refine S_nil ?_
  refine X_seq ?_
  refine T_cond_false rfl ?_
  refine T_skip ?_
  refine X_seq ?_
  refine T_seq ?_
  refine T_region ?_
  refine S_val rfl rfl (Y_loadAI 0 (und rfl) rfl rfl rfl (siz rfl) (dl_length _ _ _)) ?_
  refine S_callV rfl rfl (bod rfl) (fun w hs => rof_any a _) rfl rfl ?_
  refine S_allocA (zer rfl) rfl rfl fun _ => ?_
  refine S_storeAI 4 (siz rfl) rfl rfl rfl rfl (dl_length _ _ _) rfl ?_
  refine S_nil ?_
  refine X_seq ?_
  refine T_seq ?_
  refine T_region ?_
  refine S_val rfl rfl (Y_loadAI 1 (und rfl) rfl rfl rfl (siz rfl) (dl_length _ _ _)) ?_
  refine S_callV rfl rfl (bod rfl) (fun w hs => rof_any b _) rfl rfl ?_
  refine S_allocA (zer rfl) rfl rfl fun _ => ?_
  refine S_storeAI 5 (siz rfl) rfl rfl rfl rfl (dl_length _ _ _) rfl ?_
  refine S_nil ?_
  refine X_seq ?_
  refine T_seq ?_
  refine T_region ?_
  refine S_val rfl rfl (Y_build (und rfl) (siz rfl) (zer rfl) rfl rfl) ?_
  refine S_callV rfl rfl (bod rfl) (fun w hs => ng _) rfl rfl ?_
  refine S_allocA (zer rfl) rfl rfl fun _ => ?_
  refine S_storeAI 6 (siz rfl) rfl rfl rfl rfl (dl_length _ _ _) rfl ?_
  refine S_nil ?_
  refine X_seq ?_
  refine T_seq ?_
  refine T_seq ?_
  refine T_region ?_
  refine S_val rfl rfl (Y_move rfl) ?_
  refine S_nil ?_
  refine X_seq ?_
  refine T_block ?_
  refine T_seq ?_
  refine T_region ?_
  refine S_val rfl rfl (Y_eql_f rfl rfl (by decide)) ?_
  refine S_val rfl rfl (Y_assign rfl) ?_
  refine S_nil ?_
  refine X_seq ?_
  refine T_cond_false rfl ?_
  refine T_seq ?_
  refine T_region ?_
  refine S_val rfl rfl (Y_eql_f rfl rfl (by decide)) ?_
  refine S_val rfl rfl (Y_assign rfl) ?_
  refine S_nil ?_
  refine X_seq ?_
  refine T_cond_false rfl ?_
  refine T_seq ?_
  refine T_region ?_
  refine S_val rfl rfl (Y_eql_t rfl rfl (by decide)) ?_
  refine S_val rfl rfl (Y_assign rfl) ?_
  refine S_nil ?_
  refine X_seq ?_
  refine T_cond_true rfl ?_
  refine T_seq ?_
  refine T_region ?_
  refine S_val rfl rfl (Y_loadAI 0 (und rfl) rfl rfl rfl (siz rfl) (dl_length _ _ _)) ?_
  refine S_val rfl rfl (Y_loadAI 1 (und rfl) rfl rfl rfl (siz rfl) (dl_length _ _ _)) ?_
  refine S_callV rfl rfl (bod rfl) (fun w hs => sl _) rfl rfl ?_
  skip
  refine S_callV rfl rfl (bod rfl) (fun w hs => rtruth17_any _ _) rfl rfl ?_
  refine S_storeAI 3 (siz rfl) rfl rfl rfl rfl (dl_length _ _ _) rfl ?_
  refine S_val rfl rfl (Y_assign rfl) ?_
  refine S_nil ?_
  refine X_seq ?_
  refine T_ret ?_
  refine X_blk_ret ?_
  refine X_seq_ret ?_
  ((first | refine X_fin_ret ?_ | refine X_fin ?_); exact ⟨[_, _], [], .cons (.agg 3 rfl (und rfl) rfl rfl (siz rfl)) (.cons (.tmp rfl) .nil), Emb.nil _, rfl, rfl⟩)
theorem rdo_19 (a b c : Nat) (ha : a < 2 ^ 256) (hb : b < 2 ^ 256) (hc : c < 2 ^ 256) (w : World) : Fn Tryz.prog 5 #[.int .u8 19, W a, W b, W c] w fun v N => v = .tuple #[W (bN (slt b a)), .bool true] ∧ N = [] := by
  have tk := rtakes_any 19
  rw [show tkN 19 = 2 by decide] at tk
  obtain ⟨O, hO⟩ : ∃ o, 2 ^ 256 - 1 = o := ⟨_, rfl⟩
  have ng := rneg_any 1 (by omega)
  rw [show (2 ^ 256 - 1) % 2 ^ 256 = O by omega, ← d_one] at ng
  have sl := rless3_any b a
  generalize slt b a = z at *
  clear hO
  refine Fn_of (args := [.int .u8 19, W a, W b, W c]) Tryz.func5 rfl Tryz.ntmps5 Tryz.results5 (by simp) ?_
  refine T_seq ?_
  refine T_region ?_
  refine S_boxA rfl rfl rfl fun _ => ?_
  refine S_boxA rfl rfl rfl fun _ => ?_
  refine S_boxA rfl rfl rfl fun _ => ?_
  refine S_allocA (zer rfl) rfl rfl fun _ => ?_
  refine S_val rfl rfl (Y_assign rfl) ?_
  refine S_nil ?_
  refine X_seq ?_
  refine T_seq ?_
  refine T_seq ?_
  refine T_region ?_
  refine S_val rfl rfl (Y_move rfl) ?_
  refine S_callV rfl rfl (bod rfl) (fun w hs => tk _) rfl rfl ?_
  refine S_val rfl rfl (Y_eql_f rfl rfl (by decide)) ?_
  refine S_nil ?_
  refine X_seq ?_
  refine T_cond_false rfl ?_
  refine T_skip ?_
  refine X_seq ?_
  refine T_seq ?_
  refine T_seq ?_
  refine T_region ?_
  refine S_val rfl rfl (Y_move rfl) ?_
  refine S_val rfl rfl (Y_lss_f rfl rfl (by decide)) ?_
  refine S_nil ?_
  refine X_seq ?_
  refine T_cond_false rfl ?_
  refine T_skip ?_
  refine X_seq ?_
  refine T_seq ?_
  refine T_region ?_
  refine S_val rfl rfl (Y_loadAI 0 (und rfl) rfl rfl rfl (siz rfl) (dl_length _ _ _)) ?_
  refine S_callV rfl rfl (bod rfl) (fun w hs => rof_any a _) rfl rfl ?_
  refine S_allocA (zer rfl) rfl rfl fun _ => ?_
  refine S_storeAI 4 (siz rfl) rfl rfl rfl rfl (dl_length _ _ _) rfl ?_
  refine S_nil ?_
  refine X_seq ?_
  refine T_seq ?_
  refine T_region ?_
  refine S_val rfl rfl (Y_loadAI 1 (und rfl) rfl rfl rfl (siz rfl) (dl_length _ _ _)) ?_
  refine S_callV rfl rfl (bod rfl) (fun w hs => rof_any b _) rfl rfl ?_
  refine S_allocA (zer rfl) rfl rfl fun _ => ?_
  refine S_storeAI 5 (siz rfl) rfl rfl rfl rfl (dl_length _ _ _) rfl ?_
  refine S_nil ?_
  refine X_seq ?_
  refine T_seq ?_
  refine T_region ?_
  refine S_val rfl rfl (Y_build (und rfl) (siz rfl) (zer rfl) rfl rfl) ?_
  refine S_callV rfl rfl (bod rfl) (fun w hs => ng _) rfl rfl ?_
  refine S_allocA (zer rfl) rfl rfl fun _ => ?_
  refine S_storeAI 6 (siz rfl) rfl rfl rfl rfl (dl_length _ _ _) rfl ?_
  refine S_nil ?_
  refine X_seq ?_
  refine T_seq ?_
  refine T_seq ?_
  refine T_region ?_
  refine S_val rfl rfl (Y_move rfl) ?_
  refine S_nil ?_
  refine X_seq ?_
  refine T_block ?_
  refine T_seq ?_
  refine T_region ?_
  refine S_val rfl rfl (Y_eql_f rfl rfl (by decide)) ?_
  refine S_val rfl rfl (Y_assign rfl) ?_
  refine S_nil ?_
  refine X_seq ?_
  refine T_cond_false rfl ?_
  refine T_seq ?_
  refine T_region ?_
  refine S_val rfl rfl (Y_eql_f rfl rfl (by decide)) ?_
  refine S_val rfl rfl (Y_assign rfl) ?_
  refine S_nil ?_
  refine X_seq ?_
  refine T_cond_false rfl ?_
  refine T_seq ?_
  refine T_region ?_
  refine S_val rfl rfl (Y_eql_f rfl rfl (by decide)) ?_
  refine S_val rfl rfl (Y_assign rfl) ?_
  refine S_nil ?_
  refine X_seq ?_
  refine T_cond_false rfl ?_
  refine T_seq ?_
  refine T_region ?_
  refine S_val rfl rfl (Y_eql_t rfl rfl (by decide)) ?_
  refine S_val rfl rfl (Y_assign rfl) ?_
  refine S_nil ?_
  refine X_seq ?_
  refine T_cond_true rfl ?_
  refine T_seq ?_
  refine T_region ?_
  refine S_val rfl rfl (Y_loadAI 1 (und rfl) rfl rfl rfl (siz rfl) (dl_length _ _ _)) ?_
  refine S_val rfl rfl (Y_loadAI 0 (und rfl) rfl rfl rfl (siz rfl) (dl_length _ _ _)) ?_
  refine S_callV rfl rfl (bod rfl) (fun w hs => sl _) rfl rfl ?_
  skip
  refine S_callV rfl rfl (bod rfl) (fun w hs => rtruth17_any _ _) rfl rfl ?_
  refine S_storeAI 3 (siz rfl) rfl rfl rfl rfl (dl_length _ _ _) rfl ?_
  refine S_val rfl rfl (Y_assign rfl) ?_
  refine S_nil ?_
  refine X_seq ?_
  refine T_ret ?_
  refine X_blk_ret ?_
  refine X_seq_ret ?_
  ((first | refine X_fin_ret ?_ | refine X_fin ?_); exact ⟨[_, _], [], .cons (.agg 3 rfl (und rfl) rfl rfl (siz rfl)) (.cons (.tmp rfl) .nil), Emb.nil _, rfl, rfl⟩)
theorem rdo_20 (a b c : Nat) (ha : a < 2 ^ 256) (hb : b < 2 ^ 256) (hc : c < 2 ^ 256) (w : World) : Fn Tryz.prog 5 #[.int .u8 20, W a, W b, W c] w fun v N => v = .tuple #[W (bN (decide (a = b))), .bool true] ∧ N = [] := by
  have tk := rtakes_any 20
  rw [show tkN 20 = 2 by decide] at tk
  obtain ⟨O, hO⟩ : ∃ o, 2 ^ 256 - 1 = o := ⟨_, rfl⟩
  have ng := rneg_any 1 (by omega)
  rw [show (2 ^ 256 - 1) % 2 ^ 256 = O by omega, ← d_one] at ng
  have e := dl4_inj ha hb
  clear hO
  refine Fn_of (args := [.int .u8 20, W a, W b, W c]) Tryz.func5 rfl Tryz.ntmps5 Tryz.results5 (by simp) ?_
  refine T_seq ?_
  refine T_region ?_
  refine S_boxA rfl rfl rfl fun _ => ?_
  refine S_boxA rfl rfl rfl fun _ => ?_
  refine S_boxA rfl rfl rfl fun _ => ?_
  refine S_allocA (zer rfl) rfl rfl fun _ => ?_
  refine S_val rfl rfl (Y_assign rfl) ?_
  refine S_nil ?_
  refine X_seq ?_
  refine T_seq ?_
  refine T_seq ?_
  refine T_region ?_
  refine S_val rfl rfl (Y_move rfl) ?_
  refine S_callV rfl rfl (bod rfl) (fun w hs => tk _) rfl rfl ?_
  refine S_val rfl rfl (Y_eql_f rfl rfl (by decide)) ?_
  refine S_nil ?_
  refine X_seq ?_
  refine T_cond_false rfl ?_
  refine T_skip ?_
  refine X_seq ?_
  refine T_seq ?_
  refine T_seq ?_
  refine T_region ?_
  refine S_val rfl rfl (Y_move rfl) ?_
  refine S_val rfl rfl (Y_lss_f rfl rfl (by decide)) ?_
  refine S_nil ?_
  refine X_seq ?_
  refine T_cond_false rfl ?_
  refine T_skip ?_
  refine X_seq ?_
  refine T_seq ?_
  refine T_region ?_
  refine S_val rfl rfl (Y_loadAI 0 (und rfl) rfl rfl rfl (siz rfl) (dl_length _ _ _)) ?_
  refine S_callV rfl rfl (bod rfl) (fun w hs => rof_any a _) rfl rfl ?_
  refine S_allocA (zer rfl) rfl rfl fun _ => ?_
  refine S_storeAI 4 (siz rfl) rfl rfl rfl rfl (dl_length _ _ _) rfl ?_
  refine S_nil ?_
  refine X_seq ?_
  refine T_seq ?_
  refine T_region ?_
  refine S_val rfl rfl (Y_loadAI 1 (und rfl) rfl rfl rfl (siz rfl) (dl_length _ _ _)) ?_
  refine S_callV rfl rfl (bod rfl) (fun w hs => rof_any b _) rfl rfl ?_
  refine S_allocA (zer rfl) rfl rfl fun _ => ?_
  refine S_storeAI 5 (siz rfl) rfl rfl rfl rfl (dl_length _ _ _) rfl ?_
  refine S_nil ?_
  refine X_seq ?_
  refine T_seq ?_
  refine T_region ?_
  refine S_val rfl rfl (Y_build (und rfl) (siz rfl) (zer rfl) rfl rfl) ?_
  refine S_callV rfl rfl (bod rfl) (fun w hs => ng _) rfl rfl ?_
  refine S_allocA (zer rfl) rfl rfl fun _ => ?_
  refine S_storeAI 6 (siz rfl) rfl rfl rfl rfl (dl_length _ _ _) rfl ?_
  refine S_nil ?_
  refine X_seq ?_
  refine T_seq ?_
  refine T_seq ?_
  refine T_region ?_
  refine S_val rfl rfl (Y_move rfl) ?_
  refine S_nil ?_
  refine X_seq ?_
  refine T_block ?_
  refine T_seq ?_
  refine T_region ?_
  refine S_val rfl rfl (Y_eql_f rfl rfl (by decide)) ?_
  refine S_val rfl rfl (Y_assign rfl) ?_
  refine S_nil ?_
  refine X_seq ?_
  refine T_cond_false rfl ?_
  refine T_seq ?_
  refine T_region ?_
  refine S_val rfl rfl (Y_eql_f rfl rfl (by decide)) ?_
  refine S_val rfl rfl (Y_assign rfl) ?_
  refine S_nil ?_
  refine X_seq ?_
  refine T_cond_false rfl ?_
  refine T_seq ?_
  refine T_region ?_
  refine S_val rfl rfl (Y_eql_f rfl rfl (by decide)) ?_
  refine S_val rfl rfl (Y_assign rfl) ?_
  refine S_nil ?_
  refine X_seq ?_
  refine T_cond_false rfl ?_
  refine T_seq ?_
  refine T_region ?_
  refine S_val rfl rfl (Y_eql_f rfl rfl (by decide)) ?_
  refine S_val rfl rfl (Y_assign rfl) ?_
  refine S_nil ?_
  refine X_seq ?_
  refine T_cond_false rfl ?_
  refine T_seq ?_
  refine T_region ?_
  refine S_val rfl rfl (Y_eql_t rfl rfl (by decide)) ?_
  refine S_val rfl rfl (Y_assign rfl) ?_
  refine S_nil ?_
  refine X_seq ?_
  refine T_cond_true rfl ?_
  refine T_seq ?_
  refine T_region ?_
  refine S_val rfl rfl (Y_loadAI 0 (und rfl) rfl rfl rfl (siz rfl) (dl_length _ _ _)) ?_
  refine S_val rfl rfl (Y_loadAI 1 (und rfl) rfl rfl rfl (siz rfl) (dl_length _ _ _)) ?_
  refine S_val rfl rfl (Y_eqlA (eqg rfl) (und rfl) (und rfl) (siz rfl) rfl rfl (dl_length _ _ _) (dl_length _ _ _)) ?_
  refine S_callV rfl rfl (bod rfl) (fun w hs => rtruth17_any _ _) rfl rfl ?_
  refine S_storeAI 3 (siz rfl) rfl rfl rfl rfl (dl_length _ _ _) rfl ?_
  refine S_val rfl rfl (Y_assign rfl) ?_
  refine S_nil ?_
  refine X_seq ?_
  refine T_ret ?_
  refine X_blk_ret ?_
  refine X_seq_ret ?_
  ((first | refine X_fin_ret ?_ | refine X_fin ?_); exact ⟨[_, _], [], .cons (.agg 3 rfl (und rfl) rfl rfl (siz rfl)) (.cons (.tmp rfl) .nil), Emb.nil _, by rw [← e]; rfl, rfl⟩)
theorem rdo_21 (a b c : Nat) (ha : a < 2 ^ 256) (hb : b < 2 ^ 256) (hc : c < 2 ^ 256) (w : World) : Fn Tryz.prog 5 #[.int .u8 21, W a, W b, W c] w fun v N => v = .tuple #[W (bN (decide (a = 0))), .bool true] ∧ N = [] := by
  have tk := rtakes_any 21
  rw [show tkN 21 = 1 by decide] at tk
  obtain ⟨O, hO⟩ : ∃ o, 2 ^ 256 - 1 = o := ⟨_, rfl⟩
  have ng := rneg_any 1 (by omega)
  rw [show (2 ^ 256 - 1) % 2 ^ 256 = O by omega, ← d_one] at ng
  have zr := rzero_any a ha
  generalize decide (a = 0) = z at *
  clear hO
  refine Fn_of (args := [.int .u8 21, W a, W b, W c]) Tryz.func5 rfl Tryz.ntmps5 Tryz.results5 (by simp) ?_
  refine T_seq ?_
  refine T_region ?_
  refine S_boxA rfl rfl rfl fun _ => ?_
  refine S_boxA rfl rfl rfl fun _ => ?_
  refine S_boxA rfl rfl rfl fun _ => ?_
  refine S_allocA (zer rfl) rfl rfl fun _ => ?_
  refine S_val rfl rfl (Y_assign rfl) ?_
  refine S_nil ?_
  refine X_seq ?_
  refine T_seq ?_
  refine T_seq ?_
  refine T_region ?_
  refine S_val rfl rfl (Y_move rfl) ?_
  refine S_callV rfl rfl (bod rfl) (fun w hs => tk _) rfl rfl ?_
  refine S_val rfl rfl (Y_eql_f rfl rfl (by decide)) ?_
  refine S_nil ?_
  refine X_seq ?_
  refine T_cond_false rfl ?_
  refine T_skip ?_
  refine X_seq ?_
  refine T_seq ?_
  refine T_seq ?_
  refine T_region ?_
  refine S_val rfl rfl (Y_move rfl) ?_
  refine S_val rfl rfl (Y_lss_f rfl rfl (by decide)) ?_
  refine S_nil ?_
  refine X_seq ?_
  refine T_cond_false rfl ?_
  refine T_skip ?_
  refine X_seq ?_
  refine T_seq ?_
  refine T_region ?_
  refine S_val rfl rfl (Y_loadAI 0 (und rfl) rfl rfl rfl (siz rfl) (dl_length _ _ _)) ?_
  refine S_callV rfl rfl (bod rfl) (fun w hs => rof_any a _) rfl rfl ?_
  refine S_allocA (zer rfl) rfl rfl fun _ => ?_
  refine S_storeAI 4 (siz rfl) rfl rfl rfl rfl (dl_length _ _ _) rfl ?_
  refine S_nil ?_
  refine X_seq ?_
  refine T_seq ?_
  refine T_region ?_
  refine S_val rfl rfl (Y_loadAI 1 (und rfl) rfl rfl rfl (siz rfl) (dl_length _ _ _)) ?_
  refine S_callV rfl rfl (bod rfl) (fun w hs => rof_any b _) rfl rfl ?_
  refine S_allocA (zer rfl) rfl rfl fun _ => ?_
  refine S_storeAI 5 (siz rfl) rfl rfl rfl rfl (dl_length _ _ _) rfl ?_
  refine S_nil ?_
  refine X_seq ?_
  refine T_seq ?_
  refine T_region ?_
  refine S_val rfl rfl (Y_build (und rfl) (siz rfl) (zer rfl) rfl rfl) ?_
  refine S_callV rfl rfl (bod rfl) (fun w hs => ng _) rfl rfl ?_
  refine S_allocA (zer rfl) rfl rfl fun _ => ?_
  refine S_storeAI 6 (siz rfl) rfl rfl rfl rfl (dl_length _ _ _) rfl ?_
  refine S_nil ?_
  refine X_seq ?_
  refine T_seq ?_
  refine T_seq ?_
  refine T_region ?_
  refine S_val rfl rfl (Y_move rfl) ?_
  refine S_nil ?_
  refine X_seq ?_
  refine T_block ?_
  refine T_seq ?_
  refine T_region ?_
  refine S_val rfl rfl (Y_eql_f rfl rfl (by decide)) ?_
  refine S_val rfl rfl (Y_assign rfl) ?_
  refine S_nil ?_
  refine X_seq ?_
  refine T_cond_false rfl ?_
  refine T_seq ?_
  refine T_region ?_
  refine S_val rfl rfl (Y_eql_f rfl rfl (by decide)) ?_
  refine S_val rfl rfl (Y_assign rfl) ?_
  refine S_nil ?_
  refine X_seq ?_
  refine T_cond_false rfl ?_
  refine T_seq ?_
  refine T_region ?_
  refine S_val rfl rfl (Y_eql_f rfl rfl (by decide)) ?_
  refine S_val rfl rfl (Y_assign rfl) ?_
  refine S_nil ?_
  refine X_seq ?_
  refine T_cond_false rfl ?_
  refine T_seq ?_
  refine T_region ?_
  refine S_val rfl rfl (Y_eql_f rfl rfl (by decide)) ?_
  refine S_val rfl rfl (Y_assign rfl) ?_
  refine S_nil ?_
  refine X_seq ?_
  refine T_cond_false rfl ?_
  refine T_seq ?_
  refine T_region ?_
  refine S_val rfl rfl (Y_eql_f rfl rfl (by decide)) ?_
  refine S_val rfl rfl (Y_assign rfl) ?_
  refine S_nil ?_
  refine X_seq ?_
  refine T_cond_false rfl ?_
  refine T_seq ?_
  refine T_region ?_
  refine S_val rfl rfl (Y_eql_t rfl rfl (by decide)) ?_
  refine S_val rfl rfl (Y_assign rfl) ?_
  refine S_nil ?_
  refine X_seq ?_
  refine T_cond_true rfl ?_
  refine T_seq ?_
  refine T_region ?_
  refine S_val rfl rfl (Y_loadAI 4 (und rfl) rfl rfl rfl (siz rfl) (dl_length _ _ _)) ?_
  refine S_callV rfl rfl (bod rfl) (fun w hs => zr _) rfl rfl ?_
  skip
  refine S_callV rfl rfl (bod rfl) (fun w hs => rtruth17_any _ _) rfl rfl ?_
  refine S_storeAI 3 (siz rfl) rfl rfl rfl rfl (dl_length _ _ _) rfl ?_
  refine S_val rfl rfl (Y_assign rfl) ?_
  refine S_nil ?_
  refine X_seq ?_
  refine T_ret ?_
  refine X_blk_ret ?_
  refine X_seq_ret ?_
  ((first | refine X_fin_ret ?_ | refine X_fin ?_); exact ⟨[_, _], [], .cons (.agg 3 rfl (und rfl) rfl rfl (siz rfl)) (.cons (.tmp rfl) .nil), Emb.nil _, rfl, rfl⟩)
theorem rdo_22 (a b c : Nat) (ha : a < 2 ^ 256) (hb : b < 2 ^ 256) (hc : c < 2 ^ 256) (w : World) : Fn Tryz.prog 5 #[.int .u8 22, W a, W b, W c] w fun v N => v = .tuple #[W (a &&& b), .bool true] ∧ N = [] := by
  have tk := rtakes_any 22
  rw [show tkN 22 = 2 by decide] at tk
  obtain ⟨O, hO⟩ : ∃ o, 2 ^ 256 - 1 = o := ⟨_, rfl⟩
  have ng := rneg_any 1 (by omega)
  rw [show (2 ^ 256 - 1) % 2 ^ 256 = O by omega, ← d_one] at ng
  have lg := rlogic_any a b (a &&& b) 0 (by omega) (fun i hi => (bit_and a b i hi).1) (fun i hi => (bit_and a b i hi).2)
  generalize a &&& b = z at *
  clear hO
  refine Fn_of (args := [.int .u8 22, W a, W b, W c]) Tryz.func5 rfl Tryz.ntmps5 Tryz.results5 (by simp) ?_
  refine T_seq ?_
  refine T_region ?_
  refine S_boxA rfl rfl rfl fun _ => ?_
  refine S_boxA rfl rfl rfl fun _ => ?_
  refine S_boxA rfl rfl rfl fun _ => ?_
  refine S_allocA (zer rfl) rfl rfl fun _ => ?_
  refine S_val rfl rfl (Y_assign rfl) ?_
  refine S_nil ?_
  refine X_seq ?_
  refine T_seq ?_
  refine T_seq ?_
  refine T_region ?_
  refine S_val rfl rfl (Y_move rfl) ?_
  refine S_callV rfl rfl (bod rfl) (fun w hs => tk _) rfl rfl ?_
  refine S_val rfl rfl (Y_eql_f rfl rfl (by decide)) ?_
  refine S_nil ?_
  refine X_seq ?_
  refine T_cond_false rfl ?_
  refine T_skip ?_
  refine X_seq ?_
  refine T_seq ?_
  refine T_seq ?_
  refine T_region ?_
  refine S_val rfl rfl (Y_move rfl) ?_
  refine S_val rfl rfl (Y_lss_f rfl rfl (by decide)) ?_
  refine S_nil ?_
  refine X_seq ?_
  refine T_cond_false rfl ?_
  refine T_skip ?_
  refine X_seq ?_
  refine T_seq ?_
  refine T_region ?_
  refine S_val rfl rfl (Y_loadAI 0 (und rfl) rfl rfl rfl (siz rfl) (dl_length _ _ _)) ?_
  refine S_callV rfl rfl (bod rfl) (fun w hs => rof_any a _) rfl rfl ?_
  refine S_allocA (zer rfl) rfl rfl fun _ => ?_
  refine S_storeAI 4 (siz rfl) rfl rfl rfl rfl (dl_length _ _ _) rfl ?_
  refine S_nil ?_
  refine X_seq ?_
  refine T_seq ?_
  refine T_region ?_
  refine S_val rfl rfl (Y_loadAI 1 (und rfl) rfl rfl rfl (siz rfl) (dl_length _ _ _)) ?_
  refine S_callV rfl rfl (bod rfl) (fun w hs => rof_any b _) rfl rfl ?_
  refine S_allocA (zer rfl) rfl rfl fun _ => ?_
  refine S_storeAI 5 (siz rfl) rfl rfl rfl rfl (dl_length _ _ _) rfl ?_
  refine S_nil ?_
  refine X_seq ?_
  refine T_seq ?_
  refine T_region ?_
  refine S_val rfl rfl (Y_build (und rfl) (siz rfl) (zer rfl) rfl rfl) ?_
  refine S_callV rfl rfl (bod rfl) (fun w hs => ng _) rfl rfl ?_
  refine S_allocA (zer rfl) rfl rfl fun _ => ?_
  refine S_storeAI 6 (siz rfl) rfl rfl rfl rfl (dl_length _ _ _) rfl ?_
  refine S_nil ?_
  refine X_seq ?_
  refine T_seq ?_
  refine T_seq ?_
  refine T_region ?_
  refine S_val rfl rfl (Y_move rfl) ?_
  refine S_nil ?_
  refine X_seq ?_
  refine T_block ?_
  refine T_seq ?_
  refine T_region ?_
  refine S_val rfl rfl (Y_eql_f rfl rfl (by decide)) ?_
  refine S_val rfl rfl (Y_assign rfl) ?_
  refine S_nil ?_
  refine X_seq ?_
  refine T_cond_false rfl ?_
  refine T_seq ?_
  refine T_region ?_
  refine S_val rfl rfl (Y_eql_f rfl rfl (by decide)) ?_
  refine S_val rfl rfl (Y_assign rfl) ?_
  refine S_nil ?_
  refine X_seq ?_
  refine T_cond_false rfl ?_
  refine T_seq ?_
  refine T_region ?_
  refine S_val rfl rfl (Y_eql_f rfl rfl (by decide)) ?_
  refine S_val rfl rfl (Y_assign rfl) ?_
  refine S_nil ?_
  refine X_seq ?_
  refine T_cond_false rfl ?_
  refine T_seq ?_
  refine T_region ?_
  refine S_val rfl rfl (Y_eql_f rfl rfl (by decide)) ?_
  refine S_val rfl rfl (Y_assign rfl) ?_
  refine S_nil ?_
  refine X_seq ?_
  refine T_cond_false rfl ?_
  refine T_seq ?_
  refine T_region ?_
  refine S_val rfl rfl (Y_eql_f rfl rfl (by decide)) ?_
  refine S_val rfl rfl (Y_assign rfl) ?_
  refine S_nil ?_
  refine X_seq ?_
  refine T_cond_false rfl ?_
  refine T_seq ?_
  refine T_region ?_
  refine S_val rfl rfl (Y_eql_f rfl rfl (by decide)) ?_
  refine S_val rfl rfl (Y_assign rfl) ?_
  refine S_nil ?_
  refine X_seq ?_
  refine T_cond_false rfl ?_
  refine T_seq ?_
  refine T_seq ?_
  refine T_region ?_
  refine S_val rfl rfl (Y_eql_t rfl rfl (by decide)) ?_
  refine S_val rfl rfl (Y_assign rfl) ?_
  refine S_nil ?_
  refine X_seq ?_
  refine T_cond_true rfl ?_
  refine T_skip ?_
  refine X_seq ?_
  refine T_cond_true rfl ?_
  refine T_seq ?_
  refine T_region ?_
  refine S_val rfl rfl (Y_loadAI 4 (und rfl) rfl rfl rfl (siz rfl) (dl_length _ _ _)) ?_
  refine S_val rfl rfl (Y_loadAI 5 (und rfl) rfl rfl rfl (siz rfl) (dl_length _ _ _)) ?_
  refine S_val rfl rfl (Y_move rfl) ?_
  refine S_val rfl rfl (Y_conv (und rfl) (und rfl) rfl (wi64 (by omega) (by omega))) ?_
  refine S_val rfl rfl (Y_subN rfl rfl (nat_lit' _) (nat_lit' _) (Nat.le_of_ble_eq_true rfl) (Nat.le_of_ble_eq_true rfl)) ?_
  refine S_callV rfl rfl (bod rfl) (fun w hs => lg _) rfl rfl ?_
  skip
  refine S_callV rfl rfl (bod rfl) (fun w hs => rword_any _ _) rfl rfl ?_
  refine S_storeAI 3 (siz rfl) rfl rfl rfl rfl (dl_length _ _ _) rfl ?_
  refine S_val rfl rfl (Y_assign rfl) ?_
  refine S_nil ?_
  refine X_seq ?_
  refine T_ret ?_
  refine X_blk_ret ?_
  refine X_seq_ret ?_
  ((first | refine X_fin_ret ?_ | refine X_fin ?_); exact ⟨[_, _], [], .cons (.agg 3 rfl (und rfl) rfl rfl (siz rfl)) (.cons (.tmp rfl) .nil), Emb.nil _, rfl, rfl⟩)
theorem rdo_23 (a b c : Nat) (ha : a < 2 ^ 256) (hb : b < 2 ^ 256) (hc : c < 2 ^ 256) (w : World) : Fn Tryz.prog 5 #[.int .u8 23, W a, W b, W c] w fun v N => v = .tuple #[W (a ||| b), .bool true] ∧ N = [] := by
  have tk := rtakes_any 23
  rw [show tkN 23 = 2 by decide] at tk
  obtain ⟨O, hO⟩ : ∃ o, 2 ^ 256 - 1 = o := ⟨_, rfl⟩
  have ng := rneg_any 1 (by omega)
  rw [show (2 ^ 256 - 1) % 2 ^ 256 = O by omega, ← d_one] at ng
  have lg := rlogic_any a b (a ||| b) 1 (by omega) (fun i hi => (bit_or a b i hi).1) (fun i hi => (bit_or a b i hi).2)
  generalize a ||| b = z at *
  clear hO
  refine Fn_of (args := [.int .u8 23, W a, W b, W c]) Tryz.func5 rfl Tryz.ntmps5 Tryz.results5 (by simp) ?_
  refine T_seq ?_
  refine T_region ?_
  refine S_boxA rfl rfl rfl fun _ => ?_
  refine S_boxA rfl rfl rfl fun _ => ?_
  refine S_boxA rfl rfl rfl fun _ => ?_
  refine S_allocA (zer rfl) rfl rfl fun _ => ?_
  refine S_val rfl rfl (Y_assign rfl) ?_
  refine S_nil ?_
  refine X_seq ?_
  refine T_seq ?_
  refine T_seq ?_
  refine T_region ?_
  refine S_val rfl rfl (Y_move rfl) ?_
  refine S_callV rfl rfl (bod rfl) (fun w hs => tk _) rfl rfl ?_
  refine S_val rfl rfl (Y_eql_f rfl rfl (by decide)) ?_
  refine S_nil ?_
  refine X_seq ?_
  refine T_cond_false rfl ?_
  refine T_skip ?_
  refine X_seq ?_
  refine T_seq ?_
  refine T_seq ?_
  refine T_region ?_
  refine S_val rfl rfl (Y_move rfl) ?_
  refine S_val rfl rfl (Y_lss_f rfl rfl (by decide)) ?_
  refine S_nil ?_
  refine X_seq ?_
  refine T_cond_false rfl ?_
  refine T_skip ?_
  refine X_seq ?_
  refine T_seq ?_
  refine T_region ?_
  refine S_val rfl rfl (Y_loadAI 0 (und rfl) rfl rfl rfl (siz rfl) (dl_length _ _ _)) ?_
  refine S_callV rfl rfl (bod rfl) (fun w hs => rof_any a _) rfl rfl ?_
  refine S_allocA (zer rfl) rfl rfl fun _ => ?_
  refine S_storeAI 4 (siz rfl) rfl rfl rfl rfl (dl_length _ _ _) rfl ?_
  refine S_nil ?_
  refine X_seq ?_
  refine T_seq ?_
  refine T_region ?_
  refine S_val rfl rfl (Y_loadAI 1 (und rfl) rfl rfl rfl (siz rfl) (dl_length _ _ _)) ?_
  refine S_callV rfl rfl (bod rfl) (fun w hs => rof_any b _) rfl rfl ?_
  refine S_allocA (zer rfl) rfl rfl fun _ => ?_
  refine S_storeAI 5 (siz rfl) rfl rfl rfl rfl (dl_length _ _ _) rfl ?_
  refine S_nil ?_
  refine X_seq ?_
  refine T_seq ?_
  refine T_region ?_
  refine S_val rfl rfl (Y_build (und rfl) (siz rfl) (zer rfl) rfl rfl) ?_
  refine S_callV rfl rfl (bod rfl) (fun w hs => ng _) rfl rfl ?_
  refine S_allocA (zer rfl) rfl rfl fun _ => ?_
  refine S_storeAI 6 (siz rfl) rfl rfl rfl rfl (dl_length _ _ _) rfl ?_
  refine S_nil ?_
  refine X_seq ?_
  refine T_seq ?_
  refine T_seq ?_
  refine T_region ?_
  refine S_val rfl rfl (Y_move rfl) ?_
  refine S_nil ?_
  refine X_seq ?_
  refine T_block ?_
  refine T_seq ?_
  refine T_region ?_
  refine S_val rfl rfl (Y_eql_f rfl rfl (by decide)) ?_
  refine S_val rfl rfl (Y_assign rfl) ?_
  refine S_nil ?_
  refine X_seq ?_
  refine T_cond_false rfl ?_
  refine T_seq ?_
  refine T_region ?_
  refine S_val rfl rfl (Y_eql_f rfl rfl (by decide)) ?_
  refine S_val rfl rfl (Y_assign rfl) ?_
  refine S_nil ?_
  refine X_seq ?_
  refine T_cond_false rfl ?_
  refine T_seq ?_
  refine T_region ?_
  refine S_val rfl rfl (Y_eql_f rfl rfl (by decide)) ?_
  refine S_val rfl rfl (Y_assign rfl) ?_
  refine S_nil ?_
  refine X_seq ?_
  refine T_cond_false rfl ?_
  refine T_seq ?_
  refine T_region ?_
  refine S_val rfl rfl (Y_eql_f rfl rfl (by decide)) ?_
  refine S_val rfl rfl (Y_assign rfl) ?_
  refine S_nil ?_
  refine X_seq ?_
  refine T_cond_false rfl ?_
  refine T_seq ?_
  refine T_region ?_
  refine S_val rfl rfl (Y_eql_f rfl rfl (by decide)) ?_
  refine S_val rfl rfl (Y_assign rfl) ?_
  refine S_nil ?_
  refine X_seq ?_
  refine T_cond_false rfl ?_
  refine T_seq ?_
  refine T_region ?_
  refine S_val rfl rfl (Y_eql_f rfl rfl (by decide)) ?_
  refine S_val rfl rfl (Y_assign rfl) ?_
  refine S_nil ?_
  refine X_seq ?_
  refine T_cond_false rfl ?_
  refine T_seq ?_
  refine T_seq ?_
  refine T_region ?_
  refine S_val rfl rfl (Y_eql_f rfl rfl (by decide)) ?_
  refine S_val rfl rfl (Y_assign rfl) ?_
  refine S_nil ?_
  refine X_seq ?_
  refine T_cond_false rfl ?_
  refine T_seq ?_
  refine T_region ?_
  refine S_val rfl rfl (Y_eql_t rfl rfl (by decide)) ?_
  refine S_val rfl rfl (Y_assign rfl) ?_
  refine S_nil ?_
  refine X_seq ?_
  refine T_cond_true rfl ?_
  refine T_skip ?_
  refine X_seq ?_
  refine T_cond_true rfl ?_
  refine T_seq ?_
  refine T_region ?_
  refine S_val rfl rfl (Y_loadAI 4 (und rfl) rfl rfl rfl (siz rfl) (dl_length _ _ _)) ?_
  refine S_val rfl rfl (Y_loadAI 5 (und rfl) rfl rfl rfl (siz rfl) (dl_length _ _ _)) ?_
  refine S_val rfl rfl (Y_move rfl) ?_
  refine S_val rfl rfl (Y_conv (und rfl) (und rfl) rfl (wi64 (by omega) (by omega))) ?_
  refine S_val rfl rfl (Y_subN rfl rfl (nat_lit' _) (nat_lit' _) (Nat.le_of_ble_eq_true rfl) (Nat.le_of_ble_eq_true rfl)) ?_
  refine S_callV rfl rfl (bod rfl) (fun w hs => lg _) rfl rfl ?_
  skip
  refine S_callV rfl rfl (bod rfl) (fun w hs => rword_any _ _) rfl rfl ?_
  refine S_storeAI 3 (siz rfl) rfl rfl rfl rfl (dl_length _ _ _) rfl ?_
  refine S_val rfl rfl (Y_assign rfl) ?_
  refine S_nil ?_
  refine X_seq ?_
  refine T_ret ?_
  refine X_blk_ret ?_
  refine X_seq_ret ?_
  ((first | refine X_fin_ret ?_ | refine X_fin ?_); exact ⟨[_, _], [], .cons (.agg 3 rfl (und rfl) rfl rfl (siz rfl)) (.cons (.tmp rfl) .nil), Emb.nil _, rfl, rfl⟩)
theorem rdo_24 (a b c : Nat) (ha : a < 2 ^ 256) (hb : b < 2 ^ 256) (hc : c < 2 ^ 256) (w : World) : Fn Tryz.prog 5 #[.int .u8 24, W a, W b, W c] w fun v N => v = .tuple #[W (a ^^^ b), .bool true] ∧ N = [] := by
  have tk := rtakes_any 24
  rw [show tkN 24 = 2 by decide] at tk
  obtain ⟨O, hO⟩ : ∃ o, 2 ^ 256 - 1 = o := ⟨_, rfl⟩
  have ng := rneg_any 1 (by omega)
  rw [show (2 ^ 256 - 1) % 2 ^ 256 = O by omega, ← d_one] at ng
  have lg := rlogic_any a b (a ^^^ b) 2 (by omega) (fun i hi => (bit_xor a b i hi).1) (fun i hi => (bit_xor a b i hi).2)
  generalize a ^^^ b = z at *
  clear hO
  refine Fn_of (args := [.int .u8 24, W a, W b, W c]) Tryz.func5 rfl Tryz.ntmps5 Tryz.results5 (by simp) ?_
  refine T_seq ?_
  refine T_region ?_
  refine S_boxA rfl rfl rfl fun _ => ?_
  refine S_boxA rfl rfl rfl fun _ => ?_
  refine S_boxA rfl rfl rfl fun _ => ?_
  refine S_allocA (zer rfl) rfl rfl fun _ => ?_
  refine S_val rfl rfl (Y_assign rfl) ?_
  refine S_nil ?_
  refine X_seq ?_
  refine T_seq ?_
  refine T_seq ?_
  refine T_region ?_
  refine S_val rfl rfl (Y_move rfl) ?_
  refine S_callV rfl rfl (bod rfl) (fun w hs => tk _) rfl rfl ?_
  refine S_val rfl rfl (Y_eql_f rfl rfl (by decide)) ?_
  refine S_nil ?_
  refine X_seq ?_
  refine T_cond_false rfl ?_
  refine T_skip ?_
  refine X_seq ?_
  refine T_seq ?_
  refine T_seq ?_
  refine T_region ?_
  refine S_val rfl rfl (Y_move rfl) ?_
  refine S_val rfl rfl (Y_lss_f rfl rfl (by decide)) ?_
  refine S_nil ?_
  refine X_seq ?_
  refine T_cond_false rfl ?_
  refine T_skip ?_
  refine X_seq ?_
  refine T_seq ?_
  refine T_region ?_
  refine S_val rfl rfl (Y_loadAI 0 (und rfl) rfl rfl rfl (siz rfl) (dl_length _ _ _)) ?_
  refine S_callV rfl rfl (bod rfl) (fun w hs => rof_any a _) rfl rfl ?_
  refine S_allocA (zer rfl) rfl rfl fun _ => ?_
  refine S_storeAI 4 (siz rfl) rfl rfl rfl rfl (dl_length _ _ _) rfl ?_
  refine S_nil ?_
  refine X_seq ?_
  refine T_seq ?_
  refine T_region ?_
  refine S_val rfl rfl (Y_loadAI 1 (und rfl) rfl rfl rfl (siz rfl) (dl_length _ _ _)) ?_
  refine S_callV rfl rfl (bod rfl) (fun w hs => rof_any b _) rfl rfl ?_
  refine S_allocA (zer rfl) rfl rfl fun _ => ?_
  refine S_storeAI 5 (siz rfl) rfl rfl rfl rfl (dl_length _ _ _) rfl ?_
  refine S_nil ?_
  refine X_seq ?_
  refine T_seq ?_
  refine T_region ?_
  refine S_val rfl rfl (Y_build (und rfl) (siz rfl) (zer rfl) rfl rfl) ?_
  refine S_callV rfl rfl (bod rfl) (fun w hs => ng _) rfl rfl ?_
  refine S_allocA (zer rfl) rfl rfl fun _ => ?_
  refine S_storeAI 6 (siz rfl) rfl rfl rfl rfl (dl_length _ _ _) rfl ?_
  refine S_nil ?_
  refine X_seq ?_
  refine T_seq ?_
  refine T_seq ?_
  refine T_region ?_
  refine S_val rfl rfl (Y_move rfl) ?_
  refine S_nil ?_
  refine X_seq ?_
  refine T_block ?_
  refine T_seq ?_
  refine T_region ?_
  refine S_val rfl rfl (Y_eql_f rfl rfl (by decide)) ?_
  refine S_val rfl rfl (Y_assign rfl) ?_
  refine S_nil ?_
  refine X_seq ?_
  refine T_cond_false rfl ?_
  refine T_seq ?_
  refine T_region ?_
  refine S_val rfl rfl (Y_eql_f rfl rfl (by decide)) ?_
  refine S_val rfl rfl (Y_assign rfl) ?_
  refine S_nil ?_
  refine X_seq ?_
  refine T_cond_false rfl ?_
  refine T_seq ?_
  refine T_region ?_
  refine S_val rfl rfl (Y_eql_f rfl rfl (by decide)) ?_
  refine S_val rfl rfl (Y_assign rfl) ?_
  refine S_nil ?_
  refine X_seq ?_
  refine T_cond_false rfl ?_
  refine T_seq ?_
  refine T_region ?_
  refine S_val rfl rfl (Y_eql_f rfl rfl (by decide)) ?_
  refine S_val rfl rfl (Y_assign rfl) ?_
  refine S_nil ?_
  refine X_seq ?_
  refine T_cond_false rfl ?_
  refine T_seq ?_
  refine T_region ?_
  refine S_val rfl rfl (Y_eql_f rfl rfl (by decide)) ?_
  refine S_val rfl rfl (Y_assign rfl) ?_
  refine S_nil ?_
  refine X_seq ?_
  refine T_cond_false rfl ?_
  refine T_seq ?_
  refine T_region ?_
  refine S_val rfl rfl (Y_eql_f rfl rfl (by decide)) ?_
  refine S_val rfl rfl (Y_assign rfl) ?_
  refine S_nil ?_
  refine X_seq ?_
  refine T_cond_false rfl ?_
  refine T_seq ?_
  refine T_seq ?_
  refine T_region ?_
  refine S_val rfl rfl (Y_eql_f rfl rfl (by decide)) ?_
  refine S_val rfl rfl (Y_assign rfl) ?_
  refine S_nil ?_
  refine X_seq ?_
  refine T_cond_false rfl ?_
  refine T_seq ?_
  refine T_region ?_
  refine S_val rfl rfl (Y_eql_f rfl rfl (by decide)) ?_
  refine S_val rfl rfl (Y_assign rfl) ?_
  refine S_nil ?_
  refine X_seq ?_
  refine T_cond_false rfl ?_
  refine T_region ?_
  refine S_val rfl rfl (Y_eql_t rfl rfl (by decide)) ?_
  refine S_val rfl rfl (Y_assign rfl) ?_
  refine S_nil ?_
  refine X_seq ?_
  refine T_cond_true rfl ?_
  refine T_seq ?_
  refine T_region ?_
  refine S_val rfl rfl (Y_loadAI 4 (und rfl) rfl rfl rfl (siz rfl) (dl_length _ _ _)) ?_
  refine S_val rfl rfl (Y_loadAI 5 (und rfl) rfl rfl rfl (siz rfl) (dl_length _ _ _)) ?_
  refine S_val rfl rfl (Y_move rfl) ?_
  refine S_val rfl rfl (Y_conv (und rfl) (und rfl) rfl (wi64 (by omega) (by omega))) ?_
  refine S_val rfl rfl (Y_subN rfl rfl (nat_lit' _) (nat_lit' _) (Nat.le_of_ble_eq_true rfl) (Nat.le_of_ble_eq_true rfl)) ?_
  refine S_callV rfl rfl (bod rfl) (fun w hs => lg _) rfl rfl ?_
  skip
  refine S_callV rfl rfl (bod rfl) (fun w hs => rword_any _ _) rfl rfl ?_
  refine S_storeAI 3 (siz rfl) rfl rfl rfl rfl (dl_length _ _ _) rfl ?_
  refine S_val rfl rfl (Y_assign rfl) ?_
  refine S_nil ?_
  refine X_seq ?_
  refine T_ret ?_
  refine X_blk_ret ?_
  refine X_seq_ret ?_
  ((first | refine X_fin_ret ?_ | refine X_fin ?_); exact ⟨[_, _], [], .cons (.agg 3 rfl (und rfl) rfl rfl (siz rfl)) (.cons (.tmp rfl) .nil), Emb.nil _, rfl, rfl⟩)
end Go.Proofs.YtchoncjikdfbgaaGreat
