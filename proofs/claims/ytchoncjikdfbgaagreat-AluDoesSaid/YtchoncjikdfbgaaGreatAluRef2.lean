import Derived.Test.YtchoncjikdfbgaaGreatAluRef3
/- The reference of layer 17, and the law AluDoes. -/
namespace Go.Proofs.YtchoncjikdfbgaaGreat
open Go.RowKit
set_option maxRecDepth 20000
set_option maxHeartbeats 4000000

theorem rdo_26 (a b c : Nat) (ha : a < 2 ^ 256) (hb : b < 2 ^ 256) (hc : c < 2 ^ 256) (w : World) : Fn Tryz.prog 5 #[.int .u8 26, W a, W b, W c] w fun v N => v = .tuple #[W (if a < 32 then b / 256 ^ (31 - a) % 256 else 0), .bool true] ∧ N = [] := by
  have tk := rtakes_any 26
  rw [show tkN 26 = 2 by decide] at tk
  obtain ⟨O, hO⟩ : ∃ o, 2 ^ 256 - 1 = o := ⟨_, rfl⟩
  have ng := rneg_any 1 (by omega)
  rw [show (2 ^ 256 - 1) % 2 ^ 256 = O by omega, ← d_one] at ng
  have bb := rby_any a ha
  by_cases h : a < 32
  · rw [if_pos h]
    rw [show min a 256 = a by omega] at bb
    have hd := dig256_lt b (31 - a)
    have ez := w_of (n := b / 256 ^ (31 - a) % 256) (by omega)
    clear hO
    refine Fn_of (args := [.int .u8 26, W a, W b, W c]) Tryz.func5 rfl Tryz.ntmps5 Tryz.results5 (by simp) ?_
    refine T_seq ?_
    refine T_region ?_
    refine S_boxA rfl rfl rfl fun _ => ?_
    refine S_boxA rfl rfl rfl fun _ => ?_
    refine S_boxA rfl rfl rfl fun _ => ?_
    refine S_allocA (zer rfl) rfl rfl fun _ => ?_
    refine S_val rfl rfl (Y_assign rfl) ?_
    refine S_nil ?_
    refine X_seq ?_
    refine T_seq ?_
    refine T_seq ?_
    refine T_region ?_
    refine S_val rfl rfl (Y_move rfl) ?_
    refine S_callV rfl rfl (bod rfl) (fun w hs => tk _) rfl rfl ?_
    refine S_val rfl rfl (Y_eql_f rfl rfl (by decide)) ?_
    refine S_nil ?_
    refine X_seq ?_
    refine T_cond_false rfl ?_
    refine T_skip ?_
    refine X_seq ?_
    refine T_seq ?_
    refine T_seq ?_
    refine T_region ?_
    refine S_val rfl rfl (Y_move rfl) ?_
    refine S_val rfl rfl (Y_lss_f rfl rfl (by decide)) ?_
    refine S_nil ?_
    refine X_seq ?_
    refine T_cond_false rfl ?_
    refine T_skip ?_
    refine X_seq ?_
    refine T_seq ?_
    refine T_region ?_
    refine S_val rfl rfl (Y_loadAI 0 (und rfl) rfl rfl rfl (siz rfl) (dl_length _ _ _)) ?_
    refine S_callV rfl rfl (bod rfl) (fun w hs => rof_any a _) rfl rfl ?_
    refine S_allocA (zer rfl) rfl rfl fun _ => ?_
    refine S_storeAI 4 (siz rfl) rfl rfl rfl rfl (dl_length _ _ _) rfl ?_
    refine S_nil ?_
    refine X_seq ?_
    refine T_seq ?_
    refine T_region ?_
    refine S_val rfl rfl (Y_loadAI 1 (und rfl) rfl rfl rfl (siz rfl) (dl_length _ _ _)) ?_
    refine S_callV rfl rfl (bod rfl) (fun w hs => rof_any b _) rfl rfl ?_
    refine S_allocA (zer rfl) rfl rfl fun _ => ?_
    refine S_storeAI 5 (siz rfl) rfl rfl rfl rfl (dl_length _ _ _) rfl ?_
    refine S_nil ?_
    refine X_seq ?_
    refine T_seq ?_
    refine T_region ?_
    refine S_val rfl rfl (Y_build (und rfl) (siz rfl) (zer rfl) rfl rfl) ?_
    refine S_callV rfl rfl (bod rfl) (fun w hs => ng _) rfl rfl ?_
    refine S_allocA (zer rfl) rfl rfl fun _ => ?_
    refine S_storeAI 6 (siz rfl) rfl rfl rfl rfl (dl_length _ _ _) rfl ?_
    refine S_nil ?_
    refine X_seq ?_
    refine T_seq ?_
    refine T_seq ?_
    refine T_region ?_
    refine S_val rfl rfl (Y_move rfl) ?_
    refine S_nil ?_
    refine X_seq ?_
    refine T_block ?_
    refine T_seq ?_
    refine T_region ?_
    refine S_val rfl rfl (Y_eql_f rfl rfl (by decide)) ?_
    refine S_val rfl rfl (Y_assign rfl) ?_
    refine S_nil ?_
    refine X_seq ?_
    refine T_cond_false rfl ?_
    refine T_seq ?_
    refine T_region ?_
    refine S_val rfl rfl (Y_eql_f rfl rfl (by decide)) ?_
    refine S_val rfl rfl (Y_assign rfl) ?_
    refine S_nil ?_
    refine X_seq ?_
    refine T_cond_false rfl ?_
    refine T_seq ?_
    refine T_region ?_
    refine S_val rfl rfl (Y_eql_f rfl rfl (by decide)) ?_
    refine S_val rfl rfl (Y_assign rfl) ?_
    refine S_nil ?_
    refine X_seq ?_
    refine T_cond_false rfl ?_
    refine T_seq ?_
    refine T_region ?_
    refine S_val rfl rfl (Y_eql_f rfl rfl (by decide)) ?_
    refine S_val rfl rfl (Y_assign rfl) ?_
    refine S_nil ?_
    refine X_seq ?_
    refine T_cond_false rfl ?_
    refine T_seq ?_
    refine T_region ?_
    refine S_val rfl rfl (Y_eql_f rfl rfl (by decide)) ?_
    refine S_val rfl rfl (Y_assign rfl) ?_
    refine S_nil ?_
    refine X_seq ?_
    refine T_cond_false rfl ?_
    refine T_seq ?_
    refine T_region ?_
    refine S_val rfl rfl (Y_eql_f rfl rfl (by decide)) ?_
    refine S_val rfl rfl (Y_assign rfl) ?_
    refine S_nil ?_
    refine X_seq ?_
    refine T_cond_false rfl ?_
    refine T_seq ?_
    refine T_seq ?_
    refine T_region ?_
    refine S_val rfl rfl (Y_eql_f rfl rfl (by decide)) ?_
    refine S_val rfl rfl (Y_assign rfl) ?_
    refine S_nil ?_
    refine X_seq ?_
    refine T_cond_false rfl ?_
    refine T_seq ?_
    refine T_region ?_
    refine S_val rfl rfl (Y_eql_f rfl rfl (by decide)) ?_
    refine S_val rfl rfl (Y_assign rfl) ?_
    refine S_nil ?_
    refine X_seq ?_
    refine T_cond_false rfl ?_
    refine T_region ?_
    refine S_val rfl rfl (Y_eql_f rfl rfl (by decide)) ?_
    refine S_val rfl rfl (Y_assign rfl) ?_
    refine S_nil ?_
    refine X_seq ?_
    refine T_cond_false rfl ?_
    refine T_seq ?_
    refine T_region ?_
    refine S_val rfl rfl (Y_eql_f rfl rfl (by decide)) ?_
    refine S_val rfl rfl (Y_assign rfl) ?_
    refine S_nil ?_
    refine X_seq ?_
    refine T_cond_false rfl ?_
    refine T_seq ?_
    refine T_region ?_
    refine S_val rfl rfl (Y_eql_t rfl rfl (by decide)) ?_
    refine S_val rfl rfl (Y_assign rfl) ?_
    refine S_nil ?_
    refine X_seq ?_
    refine T_cond_true rfl ?_
    refine T_seq ?_
    refine T_region ?_
    refine S_val rfl rfl (Y_loadAI 0 (und rfl) rfl rfl rfl (siz rfl) (dl_length _ _ _)) ?_
    refine S_callV rfl rfl (bod rfl) (fun w hs => bb _) rfl rfl ?_
    refine S_val rfl rfl (Y_assign rfl) ?_
    refine S_nil ?_
    refine X_seq ?_
    refine T_seq ?_
    refine T_seq ?_
    refine T_region ?_
    refine S_val rfl rfl (Y_move rfl) ?_
    refine S_val rfl rfl (Y_gtr_f rfl rfl (by omega)) ?_
    refine S_nil ?_
    refine X_seq ?_
    refine T_cond_false rfl ?_
    refine T_skip ?_
    refine X_seq ?_
    refine T_seq ?_
    refine T_region ?_
    refine S_val rfl rfl (Y_move rfl) ?_
    refine S_val rfl rfl (Y_subN rfl rfl (nat_lit' _) (nat_cast _) (by omega) (Nat.le_of_ble_eq_true rfl)) ?_
    refine S_val rfl rfl (Y_ixa (und rfl) (siz rfl) rfl rfl (nat_cast _) (by omega)) ?_
    refine S_val rfl rfl (Y_loadI 5 (und rfl) rfl rfl rfl (dl_get (by omega))) ?_
    refine S_val rfl rfl (Y_conv (und rfl) (und rfl) rfl (wu64 (by omega) (by omega))) ?_
    refine S_val rfl rfl (Y_build (und rfl) (siz rfl) (zer rfl) rfl rfl) ?_
    refine S_storeAI 3 (siz rfl) rfl rfl rfl rfl rfl rfl ?_
    refine S_val rfl rfl (Y_assign rfl) ?_
    refine S_nil ?_
    refine X_seq ?_
    refine T_ret ?_
    refine X_blk_ret ?_
    refine X_seq_ret ?_
    ((first | refine X_fin_ret ?_ | refine X_fin ?_); exact ⟨[_, _], [], .cons (.agg 3 rfl (und rfl) rfl rfl (siz rfl)) (.cons (.tmp rfl) .nil), Emb.nil _, congrArg (fun l => Value.tuple #[.agg (ints .u64 l), .bool true]) ez, rfl⟩)
  · rw [if_neg h]
    have h2 : 31 < min a 256 := by omega
    generalize min a 256 = z at *
    clear hO
    refine Fn_of (args := [.int .u8 26, W a, W b, W c]) Tryz.func5 rfl Tryz.ntmps5 Tryz.results5 (by simp) ?_
    refine T_seq ?_
    refine T_region ?_
    refine S_boxA rfl rfl rfl fun _ => ?_
    refine S_boxA rfl rfl rfl fun _ => ?_
    refine S_boxA rfl rfl rfl fun _ => ?_
    refine S_allocA (zer rfl) rfl rfl fun _ => ?_
    refine S_val rfl rfl (Y_assign rfl) ?_
    refine S_nil ?_
    refine X_seq ?_
    refine T_seq ?_
    refine T_seq ?_
    refine T_region ?_
    refine S_val rfl rfl (Y_move rfl) ?_
    refine S_callV rfl rfl (bod rfl) (fun w hs => tk _) rfl rfl ?_
    refine S_val rfl rfl (Y_eql_f rfl rfl (by decide)) ?_
    refine S_nil ?_
    refine X_seq ?_
    refine T_cond_false rfl ?_
    refine T_skip ?_
    refine X_seq ?_
    refine T_seq ?_
    refine T_seq ?_
    refine T_region ?_
    refine S_val rfl rfl (Y_move rfl) ?_
    refine S_val rfl rfl (Y_lss_f rfl rfl (by decide)) ?_
    refine S_nil ?_
    refine X_seq ?_
    refine T_cond_false rfl ?_
    refine T_skip ?_
    refine X_seq ?_
    refine T_seq ?_
    refine T_region ?_
    refine S_val rfl rfl (Y_loadAI 0 (und rfl) rfl rfl rfl (siz rfl) (dl_length _ _ _)) ?_
    refine S_callV rfl rfl (bod rfl) (fun w hs => rof_any a _) rfl rfl ?_
    refine S_allocA (zer rfl) rfl rfl fun _ => ?_
    refine S_storeAI 4 (siz rfl) rfl rfl rfl rfl (dl_length _ _ _) rfl ?_
    refine S_nil ?_
    refine X_seq ?_
    refine T_seq ?_
    refine T_region ?_
    refine S_val rfl rfl (Y_loadAI 1 (und rfl) rfl rfl rfl (siz rfl) (dl_length _ _ _)) ?_
    refine S_callV rfl rfl (bod rfl) (fun w hs => rof_any b _) rfl rfl ?_
    refine S_allocA (zer rfl) rfl rfl fun _ => ?_
    refine S_storeAI 5 (siz rfl) rfl rfl rfl rfl (dl_length _ _ _) rfl ?_
    refine S_nil ?_
    refine X_seq ?_
    refine T_seq ?_
    refine T_region ?_
    refine S_val rfl rfl (Y_build (und rfl) (siz rfl) (zer rfl) rfl rfl) ?_
    refine S_callV rfl rfl (bod rfl) (fun w hs => ng _) rfl rfl ?_
    refine S_allocA (zer rfl) rfl rfl fun _ => ?_
    refine S_storeAI 6 (siz rfl) rfl rfl rfl rfl (dl_length _ _ _) rfl ?_
    refine S_nil ?_
    refine X_seq ?_
    refine T_seq ?_
    refine T_seq ?_
    refine T_region ?_
    refine S_val rfl rfl (Y_move rfl) ?_
    refine S_nil ?_
    refine X_seq ?_
    refine T_block ?_
    refine T_seq ?_
    refine T_region ?_
    refine S_val rfl rfl (Y_eql_f rfl rfl (by decide)) ?_
    refine S_val rfl rfl (Y_assign rfl) ?_
    refine S_nil ?_
    refine X_seq ?_
    refine T_cond_false rfl ?_
    refine T_seq ?_
    refine T_region ?_
    refine S_val rfl rfl (Y_eql_f rfl rfl (by decide)) ?_
    refine S_val rfl rfl (Y_assign rfl) ?_
    refine S_nil ?_
    refine X_seq ?_
    refine T_cond_false rfl ?_
    refine T_seq ?_
    refine T_region ?_
    refine S_val rfl rfl (Y_eql_f rfl rfl (by decide)) ?_
    refine S_val rfl rfl (Y_assign rfl) ?_
    refine S_nil ?_
    refine X_seq ?_
    refine T_cond_false rfl ?_
    refine T_seq ?_
    refine T_region ?_
    refine S_val rfl rfl (Y_eql_f rfl rfl (by decide)) ?_
    refine S_val rfl rfl (Y_assign rfl) ?_
    refine S_nil ?_
    refine X_seq ?_
    refine T_cond_false rfl ?_
    refine T_seq ?_
    refine T_region ?_
    refine S_val rfl rfl (Y_eql_f rfl rfl (by decide)) ?_
    refine S_val rfl rfl (Y_assign rfl) ?_
    refine S_nil ?_
    refine X_seq ?_
    refine T_cond_false rfl ?_
    refine T_seq ?_
    refine T_region ?_
    refine S_val rfl rfl (Y_eql_f rfl rfl (by decide)) ?_
    refine S_val rfl rfl (Y_assign rfl) ?_
    refine S_nil ?_
    refine X_seq ?_
    refine T_cond_false rfl ?_
    refine T_seq ?_
    refine T_seq ?_
    refine T_region ?_
    refine S_val rfl rfl (Y_eql_f rfl rfl (by decide)) ?_
    refine S_val rfl rfl (Y_assign rfl) ?_
    refine S_nil ?_
    refine X_seq ?_
    refine T_cond_false rfl ?_
    refine T_seq ?_
    refine T_region ?_
    refine S_val rfl rfl (Y_eql_f rfl rfl (by decide)) ?_
    refine S_val rfl rfl (Y_assign rfl) ?_
    refine S_nil ?_
    refine X_seq ?_
    refine T_cond_false rfl ?_
    refine T_region ?_
    refine S_val rfl rfl (Y_eql_f rfl rfl (by decide)) ?_
    refine S_val rfl rfl (Y_assign rfl) ?_
    refine S_nil ?_
    refine X_seq ?_
    refine T_cond_false rfl ?_
    refine T_seq ?_
    refine T_region ?_
    refine S_val rfl rfl (Y_eql_f rfl rfl (by decide)) ?_
    refine S_val rfl rfl (Y_assign rfl) ?_
    refine S_nil ?_
    refine X_seq ?_
    refine T_cond_false rfl ?_
    refine T_seq ?_
    refine T_region ?_
    refine S_val rfl rfl (Y_eql_t rfl rfl (by decide)) ?_
    refine S_val rfl rfl (Y_assign rfl) ?_
    refine S_nil ?_
    refine X_seq ?_
    refine T_cond_true rfl ?_
    refine T_seq ?_
    refine T_region ?_
    refine S_val rfl rfl (Y_loadAI 0 (und rfl) rfl rfl rfl (siz rfl) (dl_length _ _ _)) ?_
    refine S_callV rfl rfl (bod rfl) (fun w hs => bb _) rfl rfl ?_
    refine S_val rfl rfl (Y_assign rfl) ?_
    refine S_nil ?_
    refine X_seq ?_
    refine T_seq ?_
    refine T_seq ?_
    refine T_region ?_
    refine S_val rfl rfl (Y_move rfl) ?_
    refine S_val rfl rfl (Y_gtr_t rfl rfl (by omega)) ?_
    refine S_nil ?_
    refine X_seq ?_
    refine T_cond_true rfl ?_
    refine T_seq ?_
    refine T_region ?_
    refine S_val rfl rfl (Y_build (und rfl) (siz rfl) (zer rfl) rfl rfl) ?_
    refine S_storeAI 3 (siz rfl) rfl rfl rfl rfl rfl rfl ?_
    refine S_val rfl rfl (Y_assign rfl) ?_
    refine S_nil ?_
    refine X_seq ?_
    refine T_ret ?_
    refine X_seq_ret ?_
    refine X_blk_ret ?_
    refine X_seq_ret ?_
    ((first | refine X_fin_ret ?_ | refine X_fin ?_); exact ⟨[_, _], [], .cons (.agg 3 rfl (und rfl) rfl rfl (siz rfl)) (.cons (.tmp rfl) .nil), Emb.nil _, congrArg (fun l => Value.tuple #[.agg (ints .u64 l), .bool true]) w_zero, rfl⟩)
theorem rdo_27 (a b c : Nat) (ha : a < 2 ^ 256) (hb : b < 2 ^ 256) (hc : c < 2 ^ 256) (w : World) : Fn Tryz.prog 5 #[.int .u8 27, W a, W b, W c] w fun v N => v = .tuple #[W (b * 2 ^ min a 256 % 2 ^ 256), .bool true] ∧ N = [] := by
  have tk := rtakes_any 27
  rw [show tkN 27 = 2 by decide] at tk
  obtain ⟨O, hO⟩ : ∃ o, 2 ^ 256 - 1 = o := ⟨_, rfl⟩
  have ng := rneg_any 1 (by omega)
  rw [show (2 ^ 256 - 1) % 2 ^ 256 = O by omega, ← d_one] at ng
  have bb := rby_any a ha
  have h256 : min a 256 ≤ 256 := Nat.min_le_right _ _
  generalize min a 256 = s at *
  have sh := rshift_any b hb s (by omega)
  rw [shN_up] at sh
  generalize b * 2 ^ s % 2 ^ 256 = z at *
  clear hO
  refine Fn_of (args := [.int .u8 27, W a, W b, W c]) Tryz.func5 rfl Tryz.ntmps5 Tryz.results5 (by simp) ?_
  refine T_seq ?_
  refine T_region ?_
  refine S_boxA rfl rfl rfl fun _ => ?_
  refine S_boxA rfl rfl rfl fun _ => ?_
  refine S_boxA rfl rfl rfl fun _ => ?_
  refine S_allocA (zer rfl) rfl rfl fun _ => ?_
  refine S_val rfl rfl (Y_assign rfl) ?_
  refine S_nil ?_
  refine X_seq ?_
  refine T_seq ?_
  refine T_seq ?_
  refine T_region ?_
  refine S_val rfl rfl (Y_move rfl) ?_
  refine S_callV rfl rfl (bod rfl) (fun w hs => tk _) rfl rfl ?_
  refine S_val rfl rfl (Y_eql_f rfl rfl (by decide)) ?_
  refine S_nil ?_
  refine X_seq ?_
  refine T_cond_false rfl ?_
  refine T_skip ?_
  refine X_seq ?_
  refine T_seq ?_
  refine T_seq ?_
  refine T_region ?_
  refine S_val rfl rfl (Y_move rfl) ?_
  refine S_val rfl rfl (Y_lss_f rfl rfl (by decide)) ?_
  refine S_nil ?_
  refine X_seq ?_
  refine T_cond_false rfl ?_
  refine T_skip ?_
  refine X_seq ?_
  refine T_seq ?_
  refine T_region ?_
  refine S_val rfl rfl (Y_loadAI 0 (und rfl) rfl rfl rfl (siz rfl) (dl_length _ _ _)) ?_
  refine S_callV rfl rfl (bod rfl) (fun w hs => rof_any a _) rfl rfl ?_
  refine S_allocA (zer rfl) rfl rfl fun _ => ?_
  refine S_storeAI 4 (siz rfl) rfl rfl rfl rfl (dl_length _ _ _) rfl ?_
  refine S_nil ?_
  refine X_seq ?_
  refine T_seq ?_
  refine T_region ?_
  refine S_val rfl rfl (Y_loadAI 1 (und rfl) rfl rfl rfl (siz rfl) (dl_length _ _ _)) ?_
  refine S_callV rfl rfl (bod rfl) (fun w hs => rof_any b _) rfl rfl ?_
  refine S_allocA (zer rfl) rfl rfl fun _ => ?_
  refine S_storeAI 5 (siz rfl) rfl rfl rfl rfl (dl_length _ _ _) rfl ?_
  refine S_nil ?_
  refine X_seq ?_
  refine T_seq ?_
  refine T_region ?_
  refine S_val rfl rfl (Y_build (und rfl) (siz rfl) (zer rfl) rfl rfl) ?_
  refine S_callV rfl rfl (bod rfl) (fun w hs => ng _) rfl rfl ?_
  refine S_allocA (zer rfl) rfl rfl fun _ => ?_
  refine S_storeAI 6 (siz rfl) rfl rfl rfl rfl (dl_length _ _ _) rfl ?_
  refine S_nil ?_
  refine X_seq ?_
  refine T_seq ?_
  refine T_seq ?_
  refine T_region ?_
  refine S_val rfl rfl (Y_move rfl) ?_
  refine S_nil ?_
  refine X_seq ?_
  refine T_block ?_
  refine T_seq ?_
  refine T_region ?_
  refine S_val rfl rfl (Y_eql_f rfl rfl (by decide)) ?_
  refine S_val rfl rfl (Y_assign rfl) ?_
  refine S_nil ?_
  refine X_seq ?_
  refine T_cond_false rfl ?_
  refine T_seq ?_
  refine T_region ?_
  refine S_val rfl rfl (Y_eql_f rfl rfl (by decide)) ?_
  refine S_val rfl rfl (Y_assign rfl) ?_
  refine S_nil ?_
  refine X_seq ?_
  refine T_cond_false rfl ?_
  refine T_seq ?_
  refine T_region ?_
  refine S_val rfl rfl (Y_eql_f rfl rfl (by decide)) ?_
  refine S_val rfl rfl (Y_assign rfl) ?_
  refine S_nil ?_
  refine X_seq ?_
  refine T_cond_false rfl ?_
  refine T_seq ?_
  refine T_region ?_
  refine S_val rfl rfl (Y_eql_f rfl rfl (by decide)) ?_
  refine S_val rfl rfl (Y_assign rfl) ?_
  refine S_nil ?_
  refine X_seq ?_
  refine T_cond_false rfl ?_
  refine T_seq ?_
  refine T_region ?_
  refine S_val rfl rfl (Y_eql_f rfl rfl (by decide)) ?_
  refine S_val rfl rfl (Y_assign rfl) ?_
  refine S_nil ?_
  refine X_seq ?_
  refine T_cond_false rfl ?_
  refine T_seq ?_
  refine T_region ?_
  refine S_val rfl rfl (Y_eql_f rfl rfl (by decide)) ?_
  refine S_val rfl rfl (Y_assign rfl) ?_
  refine S_nil ?_
  refine X_seq ?_
  refine T_cond_false rfl ?_
  refine T_seq ?_
  refine T_seq ?_
  refine T_region ?_
  refine S_val rfl rfl (Y_eql_f rfl rfl (by decide)) ?_
  refine S_val rfl rfl (Y_assign rfl) ?_
  refine S_nil ?_
  refine X_seq ?_
  refine T_cond_false rfl ?_
  refine T_seq ?_
  refine T_region ?_
  refine S_val rfl rfl (Y_eql_f rfl rfl (by decide)) ?_
  refine S_val rfl rfl (Y_assign rfl) ?_
  refine S_nil ?_
  refine X_seq ?_
  refine T_cond_false rfl ?_
  refine T_region ?_
  refine S_val rfl rfl (Y_eql_f rfl rfl (by decide)) ?_
  refine S_val rfl rfl (Y_assign rfl) ?_
  refine S_nil ?_
  refine X_seq ?_
  refine T_cond_false rfl ?_
  refine T_seq ?_
  refine T_region ?_
  refine S_val rfl rfl (Y_eql_f rfl rfl (by decide)) ?_
  refine S_val rfl rfl (Y_assign rfl) ?_
  refine S_nil ?_
  refine X_seq ?_
  refine T_cond_false rfl ?_
  refine T_seq ?_
  refine T_region ?_
  refine S_val rfl rfl (Y_eql_f rfl rfl (by decide)) ?_
  refine S_val rfl rfl (Y_assign rfl) ?_
  refine S_nil ?_
  refine X_seq ?_
  refine T_cond_false rfl ?_
  refine T_seq ?_
  refine T_region ?_
  refine S_val rfl rfl (Y_eql_t rfl rfl (by decide)) ?_
  refine S_val rfl rfl (Y_assign rfl) ?_
  refine S_nil ?_
  refine X_seq ?_
  refine T_cond_true rfl ?_
  refine T_seq ?_
  refine T_drawP (.succ (.succ (.succ (.succ (.succ .zero))))) (by kernel_rfl) (by kernel_rfl) (by kernel_rfl) (by kernel_rfl) ?_
  refine D0_valM rfl rfl rfl (Y_loadAI 5 (und rfl) rfl rfl rfl (siz rfl) (dl_length _ _ _)) ?_
  refine D0_valM rfl rfl rfl (Y_loadAI 0 (und rfl) rfl rfl rfl (siz rfl) (dl_length _ _ _)) ?_
  refine D0_callV rfl rfl (bod rfl) (fun w hs => bb _) rfl rfl ?_
  skip
  refine D0_callV rfl rfl (bod rfl) (fun w hs => sh _) rfl rfl ?_
  skip
  refine D0_callV rfl rfl (bod rfl) (fun w hs => rword_any z _) rfl rfl ?_
  refine D0_nilS ?_
  refine S_storeAI 3 (siz rfl) rfl rfl rfl rfl (dl_length _ _ _) rfl ?_
  refine S_val rfl rfl (Y_assign rfl) ?_
  refine S_nil ?_
  refine X_seq ?_
  refine T_ret ?_
  refine X_blk_ret ?_
  refine X_seq_ret ?_
  ((first | refine X_fin_ret ?_ | refine X_fin ?_); exact ⟨[_, _], [], .cons (.agg 3 rfl (und rfl) rfl rfl (siz rfl)) (.cons (.tmp rfl) .nil), Emb.nil _, rfl, rfl⟩)
theorem rdo_28 (a b c : Nat) (ha : a < 2 ^ 256) (hb : b < 2 ^ 256) (hc : c < 2 ^ 256) (w : World) : Fn Tryz.prog 5 #[.int .u8 28, W a, W b, W c] w fun v N => v = .tuple #[W (b / 2 ^ min a 256), .bool true] ∧ N = [] := by
  have tk := rtakes_any 28
  rw [show tkN 28 = 2 by decide] at tk
  obtain ⟨O, hO⟩ : ∃ o, 2 ^ 256 - 1 = o := ⟨_, rfl⟩
  have ng := rneg_any 1 (by omega)
  rw [show (2 ^ 256 - 1) % 2 ^ 256 = O by omega, ← d_one] at ng
  have bb := rby_any a ha
  have h256 : min a 256 ≤ 256 := Nat.min_le_right _ _
  generalize min a 256 = s at *
  have sh := rshift_any b hb (0 - (s : Int)) (by omega)
  rw [shN_down hb] at sh
  generalize b / 2 ^ s = z at *
  clear hO
  refine Fn_of (args := [.int .u8 28, W a, W b, W c]) Tryz.func5 rfl Tryz.ntmps5 Tryz.results5 (by simp) ?_
  refine T_seq ?_
  refine T_region ?_
  refine S_boxA rfl rfl rfl fun _ => ?_
  refine S_boxA rfl rfl rfl fun _ => ?_
  refine S_boxA rfl rfl rfl fun _ => ?_
  refine S_allocA (zer rfl) rfl rfl fun _ => ?_
  refine S_val rfl rfl (Y_assign rfl) ?_
  refine S_nil ?_
  refine X_seq ?_
  refine T_seq ?_
  refine T_seq ?_
  refine T_region ?_
  refine S_val rfl rfl (Y_move rfl) ?_
  refine S_callV rfl rfl (bod rfl) (fun w hs => tk _) rfl rfl ?_
  refine S_val rfl rfl (Y_eql_f rfl rfl (by decide)) ?_
  refine S_nil ?_
  refine X_seq ?_
  refine T_cond_false rfl ?_
  refine T_skip ?_
  refine X_seq ?_
  refine T_seq ?_
  refine T_seq ?_
  refine T_region ?_
  refine S_val rfl rfl (Y_move rfl) ?_
  refine S_val rfl rfl (Y_lss_f rfl rfl (by decide)) ?_
  refine S_nil ?_
  refine X_seq ?_
  refine T_cond_false rfl ?_
  refine T_skip ?_
  refine X_seq ?_
  refine T_seq ?_
  refine T_region ?_
  refine S_val rfl rfl (Y_loadAI 0 (und rfl) rfl rfl rfl (siz rfl) (dl_length _ _ _)) ?_
  refine S_callV rfl rfl (bod rfl) (fun w hs => rof_any a _) rfl rfl ?_
  refine S_allocA (zer rfl) rfl rfl fun _ => ?_
  refine S_storeAI 4 (siz rfl) rfl rfl rfl rfl (dl_length _ _ _) rfl ?_
  refine S_nil ?_
  refine X_seq ?_
  refine T_seq ?_
  refine T_region ?_
  refine S_val rfl rfl (Y_loadAI 1 (und rfl) rfl rfl rfl (siz rfl) (dl_length _ _ _)) ?_
  refine S_callV rfl rfl (bod rfl) (fun w hs => rof_any b _) rfl rfl ?_
  refine S_allocA (zer rfl) rfl rfl fun _ => ?_
  refine S_storeAI 5 (siz rfl) rfl rfl rfl rfl (dl_length _ _ _) rfl ?_
  refine S_nil ?_
  refine X_seq ?_
  refine T_seq ?_
  refine T_region ?_
  refine S_val rfl rfl (Y_build (und rfl) (siz rfl) (zer rfl) rfl rfl) ?_
  refine S_callV rfl rfl (bod rfl) (fun w hs => ng _) rfl rfl ?_
  refine S_allocA (zer rfl) rfl rfl fun _ => ?_
  refine S_storeAI 6 (siz rfl) rfl rfl rfl rfl (dl_length _ _ _) rfl ?_
  refine S_nil ?_
  refine X_seq ?_
  refine T_seq ?_
  refine T_seq ?_
  refine T_region ?_
  refine S_val rfl rfl (Y_move rfl) ?_
  refine S_nil ?_
  refine X_seq ?_
  refine T_block ?_
  refine T_seq ?_
  refine T_region ?_
  refine S_val rfl rfl (Y_eql_f rfl rfl (by decide)) ?_
  refine S_val rfl rfl (Y_assign rfl) ?_
  refine S_nil ?_
  refine X_seq ?_
  refine T_cond_false rfl ?_
  refine T_seq ?_
  refine T_region ?_
  refine S_val rfl rfl (Y_eql_f rfl rfl (by decide)) ?_
  refine S_val rfl rfl (Y_assign rfl) ?_
  refine S_nil ?_
  refine X_seq ?_
  refine T_cond_false rfl ?_
  refine T_seq ?_
  refine T_region ?_
  refine S_val rfl rfl (Y_eql_f rfl rfl (by decide)) ?_
  refine S_val rfl rfl (Y_assign rfl) ?_
  refine S_nil ?_
  refine X_seq ?_
  refine T_cond_false rfl ?_
  refine T_seq ?_
  refine T_region ?_
  refine S_val rfl rfl (Y_eql_f rfl rfl (by decide)) ?_
  refine S_val rfl rfl (Y_assign rfl) ?_
  refine S_nil ?_
  refine X_seq ?_
  refine T_cond_false rfl ?_
  refine T_seq ?_
  refine T_region ?_
  refine S_val rfl rfl (Y_eql_f rfl rfl (by decide)) ?_
  refine S_val rfl rfl (Y_assign rfl) ?_
  refine S_nil ?_
  refine X_seq ?_
  refine T_cond_false rfl ?_
  refine T_seq ?_
  refine T_region ?_
  refine S_val rfl rfl (Y_eql_f rfl rfl (by decide)) ?_
  refine S_val rfl rfl (Y_assign rfl) ?_
  refine S_nil ?_
  refine X_seq ?_
  refine T_cond_false rfl ?_
  refine T_seq ?_
  refine T_seq ?_
  refine T_region ?_
  refine S_val rfl rfl (Y_eql_f rfl rfl (by decide)) ?_
  refine S_val rfl rfl (Y_assign rfl) ?_
  refine S_nil ?_
  refine X_seq ?_
  refine T_cond_false rfl ?_
  refine T_seq ?_
  refine T_region ?_
  refine S_val rfl rfl (Y_eql_f rfl rfl (by decide)) ?_
  refine S_val rfl rfl (Y_assign rfl) ?_
  refine S_nil ?_
  refine X_seq ?_
  refine T_cond_false rfl ?_
  refine T_region ?_
  refine S_val rfl rfl (Y_eql_f rfl rfl (by decide)) ?_
  refine S_val rfl rfl (Y_assign rfl) ?_
  refine S_nil ?_
  refine X_seq ?_
  refine T_cond_false rfl ?_
  refine T_seq ?_
  refine T_region ?_
  refine S_val rfl rfl (Y_eql_f rfl rfl (by decide)) ?_
  refine S_val rfl rfl (Y_assign rfl) ?_
  refine S_nil ?_
  refine X_seq ?_
  refine T_cond_false rfl ?_
  refine T_seq ?_
  refine T_region ?_
  refine S_val rfl rfl (Y_eql_f rfl rfl (by decide)) ?_
  refine S_val rfl rfl (Y_assign rfl) ?_
  refine S_nil ?_
  refine X_seq ?_
  refine T_cond_false rfl ?_
  refine T_seq ?_
  refine T_region ?_
  refine S_val rfl rfl (Y_eql_f rfl rfl (by decide)) ?_
  refine S_val rfl rfl (Y_assign rfl) ?_
  refine S_nil ?_
  refine X_seq ?_
  refine T_cond_false rfl ?_
  refine T_seq ?_
  refine T_region ?_
  refine S_val rfl rfl (Y_eql_t rfl rfl (by decide)) ?_
  refine S_val rfl rfl (Y_assign rfl) ?_
  refine S_nil ?_
  refine X_seq ?_
  refine T_cond_true rfl ?_
  refine T_seq ?_
  refine T_drawP (.succ (.succ (.succ (.succ (.succ (.succ .zero)))))) (by kernel_rfl) (by kernel_rfl) (by kernel_rfl) (by kernel_rfl) ?_
  refine D0_valM rfl rfl rfl (Y_loadAI 5 (und rfl) rfl rfl rfl (siz rfl) (dl_length _ _ _)) ?_
  refine D0_valM rfl rfl rfl (Y_loadAI 0 (und rfl) rfl rfl rfl (siz rfl) (dl_length _ _ _)) ?_
  refine D0_callV rfl rfl (bod rfl) (fun w hs => bb _) rfl rfl ?_
  refine D0_val rfl rfl rfl (Y_neg rfl (wi64 (by omega) (by omega))) ?_
  refine D0_callV rfl rfl (bod rfl) (fun w hs => sh _) rfl rfl ?_
  skip
  refine D0_callV rfl rfl (bod rfl) (fun w hs => rword_any z _) rfl rfl ?_
  refine D0_nilS ?_
  refine S_storeAI 3 (siz rfl) rfl rfl rfl rfl (dl_length _ _ _) rfl ?_
  refine S_val rfl rfl (Y_assign rfl) ?_
  refine S_nil ?_
  refine X_seq ?_
  refine T_ret ?_
  refine X_blk_ret ?_
  refine X_seq_ret ?_
  ((first | refine X_fin_ret ?_ | refine X_fin ?_); exact ⟨[_, _], [], .cons (.agg 3 rfl (und rfl) rfl rfl (siz rfl)) (.cons (.tmp rfl) .nil), Emb.nil _, rfl, rfl⟩)
theorem rdo_29 (a b c : Nat) (ha : a < 2 ^ 256) (hb : b < 2 ^ 256) (hc : c < 2 ^ 256) (w : World) : Fn Tryz.prog 5 #[.int .u8 29, W a, W b, W c] w fun v N => v = .tuple #[W (sarN b (min a 256)), .bool true] ∧ N = [] := by
  have tk := rtakes_any 29
  rw [show tkN 29 = 2 by decide] at tk
  obtain ⟨O, hO⟩ : ∃ o, 2 ^ 256 - 1 = o := ⟨_, rfl⟩
  have ng := rneg_any 1 (by omega)
  rw [show (2 ^ 256 - 1) % 2 ^ 256 = O by omega, ← d_one] at ng
  have bb := rby_any a ha
  have h256 : min a 256 ≤ 256 := Nat.min_le_right _ _
  generalize min a 256 = s at *
  have sr := rsar_any b s s hb (by omega)
  generalize sarN b s = z at *
  clear hO
  refine Fn_of (args := [.int .u8 29, W a, W b, W c]) Tryz.func5 rfl Tryz.ntmps5 Tryz.results5 (by simp) ?_
  refine T_seq ?_
  refine T_region ?_
  refine S_boxA rfl rfl rfl fun _ => ?_
  refine S_boxA rfl rfl rfl fun _ => ?_
  refine S_boxA rfl rfl rfl fun _ => ?_
  refine S_allocA (zer rfl) rfl rfl fun _ => ?_
  refine S_val rfl rfl (Y_assign rfl) ?_
  refine S_nil ?_
  refine X_seq ?_
  refine T_seq ?_
  refine T_seq ?_
  refine T_region ?_
  refine S_val rfl rfl (Y_move rfl) ?_
  refine S_callV rfl rfl (bod rfl) (fun w hs => tk _) rfl rfl ?_
  refine S_val rfl rfl (Y_eql_f rfl rfl (by decide)) ?_
  refine S_nil ?_
  refine X_seq ?_
  refine T_cond_false rfl ?_
  refine T_skip ?_
  refine X_seq ?_
  refine T_seq ?_
  refine T_seq ?_
  refine T_region ?_
  refine S_val rfl rfl (Y_move rfl) ?_
  refine S_val rfl rfl (Y_lss_f rfl rfl (by decide)) ?_
  refine S_nil ?_
  refine X_seq ?_
  refine T_cond_false rfl ?_
  refine T_skip ?_
  refine X_seq ?_
  refine T_seq ?_
  refine T_region ?_
  refine S_val rfl rfl (Y_loadAI 0 (und rfl) rfl rfl rfl (siz rfl) (dl_length _ _ _)) ?_
  refine S_callV rfl rfl (bod rfl) (fun w hs => rof_any a _) rfl rfl ?_
  refine S_allocA (zer rfl) rfl rfl fun _ => ?_
  refine S_storeAI 4 (siz rfl) rfl rfl rfl rfl (dl_length _ _ _) rfl ?_
  refine S_nil ?_
  refine X_seq ?_
  refine T_seq ?_
  refine T_region ?_
  refine S_val rfl rfl (Y_loadAI 1 (und rfl) rfl rfl rfl (siz rfl) (dl_length _ _ _)) ?_
  refine S_callV rfl rfl (bod rfl) (fun w hs => rof_any b _) rfl rfl ?_
  refine S_allocA (zer rfl) rfl rfl fun _ => ?_
  refine S_storeAI 5 (siz rfl) rfl rfl rfl rfl (dl_length _ _ _) rfl ?_
  refine S_nil ?_
  refine X_seq ?_
  refine T_seq ?_
  refine T_region ?_
  refine S_val rfl rfl (Y_build (und rfl) (siz rfl) (zer rfl) rfl rfl) ?_
  refine S_callV rfl rfl (bod rfl) (fun w hs => ng _) rfl rfl ?_
  refine S_allocA (zer rfl) rfl rfl fun _ => ?_
  refine S_storeAI 6 (siz rfl) rfl rfl rfl rfl (dl_length _ _ _) rfl ?_
  refine S_nil ?_
  refine X_seq ?_
  refine T_seq ?_
  refine T_seq ?_
  refine T_region ?_
  refine S_val rfl rfl (Y_move rfl) ?_
  refine S_nil ?_
  refine X_seq ?_
  refine T_block ?_
  refine T_seq ?_
  refine T_region ?_
  refine S_val rfl rfl (Y_eql_f rfl rfl (by decide)) ?_
  refine S_val rfl rfl (Y_assign rfl) ?_
  refine S_nil ?_
  refine X_seq ?_
  refine T_cond_false rfl ?_
  refine T_seq ?_
  refine T_region ?_
  refine S_val rfl rfl (Y_eql_f rfl rfl (by decide)) ?_
  refine S_val rfl rfl (Y_assign rfl) ?_
  refine S_nil ?_
  refine X_seq ?_
  refine T_cond_false rfl ?_
  refine T_seq ?_
  refine T_region ?_
  refine S_val rfl rfl (Y_eql_f rfl rfl (by decide)) ?_
  refine S_val rfl rfl (Y_assign rfl) ?_
  refine S_nil ?_
  refine X_seq ?_
  refine T_cond_false rfl ?_
  refine T_seq ?_
  refine T_region ?_
  refine S_val rfl rfl (Y_eql_f rfl rfl (by decide)) ?_
  refine S_val rfl rfl (Y_assign rfl) ?_
  refine S_nil ?_
  refine X_seq ?_
  refine T_cond_false rfl ?_
  refine T_seq ?_
  refine T_region ?_
  refine S_val rfl rfl (Y_eql_f rfl rfl (by decide)) ?_
  refine S_val rfl rfl (Y_assign rfl) ?_
  refine S_nil ?_
  refine X_seq ?_
  refine T_cond_false rfl ?_
  refine T_seq ?_
  refine T_region ?_
  refine S_val rfl rfl (Y_eql_f rfl rfl (by decide)) ?_
  refine S_val rfl rfl (Y_assign rfl) ?_
  refine S_nil ?_
  refine X_seq ?_
  refine T_cond_false rfl ?_
  refine T_seq ?_
  refine T_seq ?_
  refine T_region ?_
  refine S_val rfl rfl (Y_eql_f rfl rfl (by decide)) ?_
  refine S_val rfl rfl (Y_assign rfl) ?_
  refine S_nil ?_
  refine X_seq ?_
  refine T_cond_false rfl ?_
  refine T_seq ?_
  refine T_region ?_
  refine S_val rfl rfl (Y_eql_f rfl rfl (by decide)) ?_
  refine S_val rfl rfl (Y_assign rfl) ?_
  refine S_nil ?_
  refine X_seq ?_
  refine T_cond_false rfl ?_
  refine T_region ?_
  refine S_val rfl rfl (Y_eql_f rfl rfl (by decide)) ?_
  refine S_val rfl rfl (Y_assign rfl) ?_
  refine S_nil ?_
  refine X_seq ?_
  refine T_cond_false rfl ?_
  refine T_seq ?_
  refine T_region ?_
  refine S_val rfl rfl (Y_eql_f rfl rfl (by decide)) ?_
  refine S_val rfl rfl (Y_assign rfl) ?_
  refine S_nil ?_
  refine X_seq ?_
  refine T_cond_false rfl ?_
  refine T_seq ?_
  refine T_region ?_
  refine S_val rfl rfl (Y_eql_f rfl rfl (by decide)) ?_
  refine S_val rfl rfl (Y_assign rfl) ?_
  refine S_nil ?_
  refine X_seq ?_
  refine T_cond_false rfl ?_
  refine T_seq ?_
  refine T_region ?_
  refine S_val rfl rfl (Y_eql_f rfl rfl (by decide)) ?_
  refine S_val rfl rfl (Y_assign rfl) ?_
  refine S_nil ?_
  refine X_seq ?_
  refine T_cond_false rfl ?_
  refine T_seq ?_
  refine T_region ?_
  refine S_val rfl rfl (Y_eql_f rfl rfl (by decide)) ?_
  refine S_val rfl rfl (Y_assign rfl) ?_
  refine S_nil ?_
  refine X_seq ?_
  refine T_cond_false rfl ?_
  refine T_skip ?_
  refine X_blk ?_
  refine X_seq ?_
  refine T_seq ?_
  refine T_drawP (.succ (.succ (.succ (.succ .zero)))) (by kernel_rfl) (by kernel_rfl) (by kernel_rfl) (by kernel_rfl) ?_
  refine D0_valM rfl rfl rfl (Y_loadAI 1 (und rfl) rfl rfl rfl (siz rfl) (dl_length _ _ _)) ?_
  refine D0_valM rfl rfl rfl (Y_loadAI 0 (und rfl) rfl rfl rfl (siz rfl) (dl_length _ _ _)) ?_
  refine D0_callV rfl rfl (bod rfl) (fun w hs => bb _) rfl rfl ?_
  skip
  refine D0_callV rfl rfl (bod rfl) (fun w hs => sr _) rfl rfl ?_
  refine D0_nilS ?_
  refine S_storeAI 3 (siz rfl) rfl rfl rfl rfl (dl_length _ _ _) rfl ?_
  refine S_val rfl rfl (Y_assign rfl) ?_
  refine S_nil ?_
  refine X_seq ?_
  refine T_ret ?_
  ((first | refine X_fin_ret ?_ | refine X_fin ?_); exact ⟨[_, _], [], .cons (.agg 3 rfl (und rfl) rfl rfl (siz rfl)) (.cons (.tmp rfl) .nil), Emb.nil _, rfl, rfl⟩)
theorem rdo_none (op a b c : Nat) (h : notOp op) (w : World) : Fn Tryz.prog 5 #[.int .u8 op, W a, W b, W c] w fun v N => v = .tuple #[W 0, .bool false] ∧ N = [] := by
  unfold notOp at h
  have tk := rtakes_any op
  rw [show tkN op = 0 by unfold tkN; rw [if_neg (by omega), if_neg (by omega), if_neg (by omega)]] at tk
  clear h
  refine Fn_of (args := [.int .u8 op, W a, W b, W c]) Tryz.func5 rfl Tryz.ntmps5 Tryz.results5 (by simp) ?_
  refine T_seq ?_
  refine T_region ?_
  refine S_boxA rfl rfl rfl fun _ => ?_
  refine S_boxA rfl rfl rfl fun _ => ?_
  refine S_boxA rfl rfl rfl fun _ => ?_
  refine S_allocA (zer rfl) rfl rfl fun _ => ?_
  refine S_val rfl rfl (Y_assign rfl) ?_
  refine S_nil ?_
  refine X_seq ?_
  refine T_seq ?_
  refine T_seq ?_
  refine T_region ?_
  refine S_val rfl rfl (Y_move rfl) ?_
  refine S_callV rfl rfl (bod rfl) (fun w hs => tk _) rfl rfl ?_
  refine S_val rfl rfl (Y_eql_t rfl rfl (by decide)) ?_
  refine S_nil ?_
  refine X_seq ?_
  refine T_cond_true rfl ?_
  refine T_seq ?_
  refine T_region ?_
  refine S_val rfl rfl (Y_build (und rfl) (siz rfl) (zer rfl) rfl rfl) ?_
  refine S_storeAI 3 (siz rfl) rfl rfl rfl rfl rfl rfl ?_
  refine S_val rfl rfl (Y_assign rfl) ?_
  refine S_nil ?_
  refine X_seq ?_
  refine T_ret ?_
  refine X_seq_ret ?_
  ((first | refine X_fin_ret ?_ | refine X_fin ?_); exact ⟨[_, _], [], .cons (.agg 3 rfl (und rfl) rfl rfl (siz rfl)) (.cons (.tmp rfl) .nil), Emb.nil _, by show Value.tuple #[.agg (ints .u64 (fillI (List.replicate 4 (0 : Int)) [])), .bool false] = _; rw [W0], rfl⟩)
theorem both_do (op a b c : Nat) (ha : a < 2 ^ 256) (hb : b < 2 ^ 256) (hc : c < 2 ^ 256) : ∃ (z : Nat) (ok : Bool), (∀ w, Fn Tryz.prog 4 #[.int .u8 op, W a, W b, W c] w fun v N => v = .tuple #[W z, .bool ok] ∧ N = []) ∧ ∀ w, Fn Tryz.prog 5 #[.int .u8 op, W a, W b, W c] w fun v N => v = .tuple #[W z, .bool ok] ∧ N = [] := by
  rcases (show op = 1 ∨ op = 2 ∨ op = 3 ∨ op = 4 ∨ op = 5 ∨ op = 6 ∨ op = 7 ∨ op = 10 ∨ op = 11 ∨ op = 16 ∨ op = 17 ∨ op = 18 ∨ op = 19 ∨ op = 20 ∨ op = 21 ∨ op = 22 ∨ op = 23 ∨ op = 24 ∨ op = 25 ∨ op = 26 ∨ op = 27 ∨ op = 28 ∨ op = 29 ∨ op = 8 ∨ op = 9 ∨ notOp op by unfold notOp; omega) with rfl | rfl | rfl | rfl | rfl | rfl | rfl | rfl | rfl | rfl | rfl | rfl | rfl | rfl | rfl | rfl | rfl | rfl | rfl | rfl | rfl | rfl | rfl | rfl | rfl | h
  · exact ⟨_, true, fun w => do_add a b c ha hb w, fun w => rdo_1 a b c ha hb hc w⟩
  · exact ⟨_, true, fun w => do_mul a b c ha hb w, fun w => rdo_2 a b c ha hb hc w⟩
  · exact ⟨_, true, fun w => do_sub a b c ha hb w, fun w => rdo_3 a b c ha hb hc w⟩
  · exact ⟨_, true, fun w => do_div a b c ha hb w, fun w => rdo_4 a b c ha hb hc w⟩
  · exact ⟨_, true, fun w => do_sdiv a b c ha hb w, fun w => rdo_5 a b c ha hb hc w⟩
  · exact ⟨_, true, fun w => do_mod a b c ha hb w, fun w => rdo_6 a b c ha hb hc w⟩
  · exact ⟨_, true, fun w => do_smod a b c ha hb w, fun w => rdo_7 a b c ha hb hc w⟩
  · exact ⟨_, true, fun w => do_exp a b c ha hb w, fun w => rdo_10 a b c ha hb hc w⟩
  · exact ⟨_, true, fun w => do_extend a b c ha hb w, fun w => rdo_11 a b c ha hb hc w⟩
  · exact ⟨_, true, fun w => do_lt a b c ha hb w, fun w => rdo_16 a b c ha hb hc w⟩
  · exact ⟨_, true, fun w => do_gt a b c ha hb w, fun w => rdo_17 a b c ha hb hc w⟩
  · exact ⟨_, true, fun w => do_slt a b c ha hb w, fun w => rdo_18 a b c ha hb hc w⟩
  · exact ⟨_, true, fun w => do_sgt a b c ha hb w, fun w => rdo_19 a b c ha hb hc w⟩
  · exact ⟨_, true, fun w => do_eq a b c ha hb w, fun w => rdo_20 a b c ha hb hc w⟩
  · exact ⟨_, true, fun w => do_iszero a b c ha hb w, fun w => rdo_21 a b c ha hb hc w⟩
  · exact ⟨_, true, fun w => do_and a b c ha hb w, fun w => rdo_22 a b c ha hb hc w⟩
  · exact ⟨_, true, fun w => do_or a b c ha hb w, fun w => rdo_23 a b c ha hb hc w⟩
  · exact ⟨_, true, fun w => do_xor a b c ha hb w, fun w => rdo_24 a b c ha hb hc w⟩
  · exact ⟨_, true, fun w => do_not a b c ha hb w, fun w => rdo_25 a b c ha hb hc w⟩
  · exact ⟨_, true, fun w => do_byte a b c ha hb w, fun w => rdo_26 a b c ha hb hc w⟩
  · exact ⟨_, true, fun w => do_shl a b c ha hb w, fun w => rdo_27 a b c ha hb hc w⟩
  · exact ⟨_, true, fun w => do_shr a b c ha hb w, fun w => rdo_28 a b c ha hb hc w⟩
  · exact ⟨_, true, fun w => do_sar a b c ha hb w, fun w => rdo_29 a b c ha hb hc w⟩
  · exact ⟨_, true, fun w => do_addmod a b c ha hb hc w, fun w => rdo_8 a b c ha hb hc w⟩
  · exact ⟨_, true, fun w => do_mulmod a b c ha hb hc w, fun w => rdo_9 a b c ha hb hc w⟩
  · exact ⟨_, false, fun w => do_none op a b c h w, fun w => rdo_none op a b c h w⟩
theorem aluDoes_law (op : Nat) (_hop : op < 256) (a : Nat) (ha : a < 2 ^ 256) (b : Nat) (hb : b < 2 ^ 256) (c : Nat) (hc : c < 2 ^ 256) (w : World) : Fn Tryz.prog 3 #[.int .u8 op, W a, W b, W c] w fun v N => v = .bool true ∧ N = [] := by
  obtain ⟨z, ok, d1, d2⟩ := both_do op a b c ha hb hc
  have t1 := takes_any op
  have t2 := rtakes_any op
  generalize tkN op = t at *
  clear ha hb hc
  cases ok
  all_goals
    refine Fn_of (args := [.int .u8 op, W a, W b, W c]) Tryz.func3 rfl Tryz.ntmps3 Tryz.results3 (by simp) ?_
    refine T_seq ?_
    refine T_region ?_
    refine S_boxA rfl rfl rfl fun _ => ?_
    refine S_boxA rfl rfl rfl fun _ => ?_
    refine S_boxA rfl rfl rfl fun _ => ?_
    refine S_val rfl rfl (Y_assign rfl) ?_
    refine S_nil ?_
    refine X_seq ?_
    refine T_seq ?_
    refine T_region ?_
    refine S_val rfl rfl (Y_move rfl) ?_
    refine S_val rfl rfl (Y_loadAI 0 (und rfl) rfl rfl rfl (siz rfl) (dl_length _ _ _)) ?_
    refine S_val rfl rfl (Y_loadAI 1 (und rfl) rfl rfl rfl (siz rfl) (dl_length _ _ _)) ?_
    refine S_val rfl rfl (Y_loadAI 2 (und rfl) rfl rfl rfl (siz rfl) (dl_length _ _ _)) ?_
    refine S_callV rfl rfl (bod rfl) (fun w hs => d1 _) rfl rfl ?_
    refine S_val rfl rfl (Y_move rfl) ?_
    refine S_val rfl rfl (Y_extract rfl rfl) ?_
    refine S_val rfl rfl (Y_extract rfl rfl) ?_
    refine S_allocA (zer rfl) rfl rfl fun _ => ?_
    refine S_storeAI 3 (siz rfl) rfl rfl rfl rfl (dl_length _ _ _) rfl ?_
    refine S_val rfl rfl (Y_assign rfl) ?_
    refine S_nil ?_
    refine X_seq ?_
    refine T_seq ?_
    refine T_region ?_
    refine S_val rfl rfl (Y_move rfl) ?_
    refine S_val rfl rfl (Y_loadAI 0 (und rfl) rfl rfl rfl (siz rfl) (dl_length _ _ _)) ?_
    refine S_val rfl rfl (Y_loadAI 1 (und rfl) rfl rfl rfl (siz rfl) (dl_length _ _ _)) ?_
    refine S_val rfl rfl (Y_loadAI 2 (und rfl) rfl rfl rfl (siz rfl) (dl_length _ _ _)) ?_
    refine S_callV rfl rfl (bod rfl) (fun w hs => d2 _) rfl rfl ?_
    refine S_val rfl rfl (Y_move rfl) ?_
    refine S_val rfl rfl (Y_extract rfl rfl) ?_
    refine S_val rfl rfl (Y_extract rfl rfl) ?_
    refine S_allocA (zer rfl) rfl rfl fun _ => ?_
    refine S_storeAI 4 (siz rfl) rfl rfl rfl rfl (dl_length _ _ _) rfl ?_
    refine S_val rfl rfl (Y_assign rfl) ?_
    refine S_nil ?_
    refine X_seq ?_
    refine T_seq ?_
    refine T_region ?_
    refine S_callV rfl rfl (bod rfl) (fun w hs => afixed_any _) rfl rfl ?_
    refine S_val rfl rfl (Y_move rfl) ?_
    refine S_val rfl rfl (Y_loadAI 3 (und rfl) rfl rfl rfl (siz rfl) (dl_length _ _ _)) ?_
    refine S_val rfl rfl (Y_loadAI 4 (und rfl) rfl rfl rfl (siz rfl) (dl_length _ _ _)) ?_
    refine S_val rfl rfl (Y_eqlA_t (eqg rfl) (und rfl) (und rfl) (siz rfl) rfl rfl (dl_length _ _ _) rfl) ?_
    refine S_val rfl rfl (Y_pick_t rfl rfl) ?_
    refine S_val rfl rfl (Y_move rfl) ?_
    refine S_val rfl rfl (Y_move rfl) ?_
    refine S_val rfl rfl (Y_move rfl) ?_
    refine S_val rfl rfl (Y_eqlB_t (und rfl) rfl rfl) ?_
    refine S_val rfl rfl (Y_pick_t rfl rfl) ?_
    refine S_val rfl rfl (Y_move rfl) ?_
    refine S_val rfl rfl (Y_move rfl) ?_
    refine S_callV rfl rfl (bod rfl) (fun w hs => t1 _) rfl rfl ?_
    refine S_val rfl rfl (Y_move rfl) ?_
    refine S_callV rfl rfl (bod rfl) (fun w hs => t2 _) rfl rfl ?_
    refine S_val rfl rfl (Y_eql_t rfl rfl (by omega)) ?_
    refine S_val rfl rfl (Y_pick_t rfl rfl) ?_
    refine S_val rfl rfl (Y_assign rfl) ?_
    refine S_nil ?_
    refine X_seq ?_
    refine T_ret ?_
    ((first | refine X_fin_ret ?_ | refine X_fin ?_); exact ⟨[_], [], .cons (.tmp rfl) .nil, Emb.nil _, rfl, rfl⟩)
end Go.Proofs.YtchoncjikdfbgaaGreat
