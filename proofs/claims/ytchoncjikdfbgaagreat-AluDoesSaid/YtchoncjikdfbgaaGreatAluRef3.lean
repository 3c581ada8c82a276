import Derived.Test.YtchoncjikdfbgaaGreatAluRef
/- The reference of layer 17: not. -/
namespace Go.Proofs.YtchoncjikdfbgaaGreat
open Go.RowKit
set_option maxRecDepth 20000
set_option maxHeartbeats 4000000

theorem bit_notO (x i O : Nat) (hO : 2 ^ 256 - 1 = O) (hx : x < 2 ^ 256) (hi : i < 256) : (isBit 2 (bitN x i + bitN O i) → (2 ^ 256 - 1 - x) / 2 ^ i % 2 = 1) ∧ (¬ isBit 2 (bitN x i + bitN O i) → (2 ^ 256 - 1 - x) / 2 ^ i % 2 = 0) := by
  subst hO
  exact bit_not x i hx hi
theorem rdo_25 (a b c : Nat) (ha : a < 2 ^ 256) (hb : b < 2 ^ 256) (hc : c < 2 ^ 256) (w : World) : Fn Tryz.prog 5 #[.int .u8 25, W a, W b, W c] w fun v N => v = .tuple #[W (2 ^ 256 - 1 - a), .bool true] ∧ N = [] := by
  have tk := rtakes_any 25
  rw [show tkN 25 = 1 by decide] at tk
  obtain ⟨O, hO⟩ : ∃ o, 2 ^ 256 - 1 = o := ⟨_, rfl⟩
  have ng := rneg_any 1 (by omega)
  rw [show (2 ^ 256 - 1) % 2 ^ 256 = O by omega, ← d_one] at ng
  have lg := rlogic_any a O (2 ^ 256 - 1 - a) 2 (by omega) (fun i hi => (bit_notO a i O hO ha hi).1) (fun i hi => (bit_notO a i O hO ha hi).2)
  generalize 2 ^ 256 - 1 - a = z at *
  clear hO
  refine Fn_of (args := [.int .u8 25, W a, W b, W c]) Tryz.func5 rfl Tryz.ntmps5 Tryz.results5 (by simp) ?_
  refine T_seq ?_
  refine T_region ?_
  refine S_boxA rfl rfl rfl fun _ => ?_
  refine S_boxA rfl rfl rfl fun _ => ?_
  refine S_boxA rfl rfl rfl fun _ => ?_
  refine S_allocA (zer rfl) rfl rfl fun _ => ?_
  refine S_val rfl rfl (Y_assign rfl) ?_
  refine S_nil ?_
  refine X_seq ?_
  refine T_seq ?_
  refine T_seq ?_
  refine T_region ?_
  refine S_val rfl rfl (Y_move rfl) ?_
  refine S_callV rfl rfl (bod rfl) (fun w hs => tk _) rfl rfl ?_
  refine S_val rfl rfl (Y_eql_f rfl rfl (by decide)) ?_
  refine S_nil ?_
  refine X_seq ?_
  refine T_cond_false rfl ?_
  refine T_skip ?_
  refine X_seq ?_
  refine T_seq ?_
  refine T_seq ?_
  refine T_region ?_
  refine S_val rfl rfl (Y_move rfl) ?_
  refine S_val rfl rfl (Y_lss_f rfl rfl (by decide)) ?_
  refine S_nil ?_
  refine X_seq ?_
  refine T_cond_false rfl ?_
  refine T_skip ?_
  refine X_seq ?_
  refine T_seq ?_
  refine T_region ?_
  refine S_val rfl rfl (Y_loadAI 0 (und rfl) rfl rfl rfl (siz rfl) (dl_length _ _ _)) ?_
  refine S_callV rfl rfl (bod rfl) (fun w hs => rof_any a _) rfl rfl ?_
  refine S_allocA (zer rfl) rfl rfl fun _ => ?_
  refine S_storeAI 4 (siz rfl) rfl rfl rfl rfl (dl_length _ _ _) rfl ?_
  refine S_nil ?_
  refine X_seq ?_
  refine T_seq ?_
  refine T_region ?_
  refine S_val rfl rfl (Y_loadAI 1 (und rfl) rfl rfl rfl (siz rfl) (dl_length _ _ _)) ?_
  refine S_callV rfl rfl (bod rfl) (fun w hs => rof_any b _) rfl rfl ?_
  refine S_allocA (zer rfl) rfl rfl fun _ => ?_
  refine S_storeAI 5 (siz rfl) rfl rfl rfl rfl (dl_length _ _ _) rfl ?_
  refine S_nil ?_
  refine X_seq ?_
  refine T_seq ?_
  refine T_region ?_
  refine S_val rfl rfl (Y_build (und rfl) (siz rfl) (zer rfl) rfl rfl) ?_
  refine S_callV rfl rfl (bod rfl) (fun w hs => ng _) rfl rfl ?_
  refine S_allocA (zer rfl) rfl rfl fun _ => ?_
  refine S_storeAI 6 (siz rfl) rfl rfl rfl rfl (dl_length _ _ _) rfl ?_
  refine S_nil ?_
  refine X_seq ?_
  refine T_seq ?_
  refine T_seq ?_
  refine T_region ?_
  refine S_val rfl rfl (Y_move rfl) ?_
  refine S_nil ?_
  refine X_seq ?_
  refine T_block ?_
  refine T_seq ?_
  refine T_region ?_
  refine S_val rfl rfl (Y_eql_f rfl rfl (by decide)) ?_
  refine S_val rfl rfl (Y_assign rfl) ?_
  refine S_nil ?_
  refine X_seq ?_
  refine T_cond_false rfl ?_
  refine T_seq ?_
  refine T_region ?_
  refine S_val rfl rfl (Y_eql_f rfl rfl (by decide)) ?_
  refine S_val rfl rfl (Y_assign rfl) ?_
  refine S_nil ?_
  refine X_seq ?_
  refine T_cond_false rfl ?_
  refine T_seq ?_
  refine T_region ?_
  refine S_val rfl rfl (Y_eql_f rfl rfl (by decide)) ?_
  refine S_val rfl rfl (Y_assign rfl) ?_
  refine S_nil ?_
  refine X_seq ?_
  refine T_cond_false rfl ?_
  refine T_seq ?_
  refine T_region ?_
  refine S_val rfl rfl (Y_eql_f rfl rfl (by decide)) ?_
  refine S_val rfl rfl (Y_assign rfl) ?_
  refine S_nil ?_
  refine X_seq ?_
  refine T_cond_false rfl ?_
  refine T_seq ?_
  refine T_region ?_
  refine S_val rfl rfl (Y_eql_f rfl rfl (by decide)) ?_
  refine S_val rfl rfl (Y_assign rfl) ?_
  refine S_nil ?_
  refine X_seq ?_
  refine T_cond_false rfl ?_
  refine T_seq ?_
  refine T_region ?_
  refine S_val rfl rfl (Y_eql_f rfl rfl (by decide)) ?_
  refine S_val rfl rfl (Y_assign rfl) ?_
  refine S_nil ?_
  refine X_seq ?_
  refine T_cond_false rfl ?_
  refine T_seq ?_
  refine T_seq ?_
  refine T_region ?_
  refine S_val rfl rfl (Y_eql_f rfl rfl (by decide)) ?_
  refine S_val rfl rfl (Y_assign rfl) ?_
  refine S_nil ?_
  refine X_seq ?_
  refine T_cond_false rfl ?_
  refine T_seq ?_
  refine T_region ?_
  refine S_val rfl rfl (Y_eql_f rfl rfl (by decide)) ?_
  refine S_val rfl rfl (Y_assign rfl) ?_
  refine S_nil ?_
  refine X_seq ?_
  refine T_cond_false rfl ?_
  refine T_region ?_
  refine S_val rfl rfl (Y_eql_f rfl rfl (by decide)) ?_
  refine S_val rfl rfl (Y_assign rfl) ?_
  refine S_nil ?_
  refine X_seq ?_
  refine T_cond_false rfl ?_
  refine T_seq ?_
  refine T_region ?_
  refine S_val rfl rfl (Y_eql_t rfl rfl (by decide)) ?_
  refine S_val rfl rfl (Y_assign rfl) ?_
  refine S_nil ?_
  refine X_seq ?_
  refine T_cond_true rfl ?_
  refine T_seq ?_
  refine T_region ?_
  refine S_val rfl rfl (Y_loadAI 4 (und rfl) rfl rfl rfl (siz rfl) (dl_length _ _ _)) ?_
  refine S_val rfl rfl (Y_loadAI 6 (und rfl) rfl rfl rfl (siz rfl) (dl_length _ _ _)) ?_
  refine S_callV rfl rfl (bod rfl) (fun w hs => lg _) rfl rfl ?_
  skip
  refine S_callV rfl rfl (bod rfl) (fun w hs => rword_any _ _) rfl rfl ?_
  refine S_storeAI 3 (siz rfl) rfl rfl rfl rfl (dl_length _ _ _) rfl ?_
  refine S_val rfl rfl (Y_assign rfl) ?_
  refine S_nil ?_
  refine X_seq ?_
  refine T_ret ?_
  refine X_blk_ret ?_
  refine X_seq_ret ?_
  ((first | refine X_fin_ret ?_ | refine X_fin ?_); exact ⟨[_, _], [], .cons (.agg 3 rfl (und rfl) rfl rfl (siz rfl)) (.cons (.tmp rfl) .nil), Emb.nil _, rfl, rfl⟩)
end Go.Proofs.YtchoncjikdfbgaaGreat
