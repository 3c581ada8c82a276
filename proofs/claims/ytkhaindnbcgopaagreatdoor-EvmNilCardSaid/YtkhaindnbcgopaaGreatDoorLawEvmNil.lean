import Derived.Test.YtkhaindnbcgopaaGreatDoorEvZ
import Derived.Test.YtkhaindnbcgopaaGreatDoorFix18
import Derived.Test.YtkhaindnbcgopaaGreatDoorTy
/- The law EvmNil hands back true. -/
namespace Go.Proofs.YtkhaindnbcgopaaGreatDoor
open Go.RowKit
set_option maxRecDepth 20000
set_option maxHeartbeats 4000000

theorem same_zero (w : World) : Fn Tryz.prog 6 #[.agg #[.bool false, .bool false, .int .u64 0, .slice none 0 0], .agg #[.bool false, .bool false, .int .u64 0, .slice none 0 0]] w fun v N => v = .bool true ∧ N = [] :=
  ev_val (fuel := 500) [.agg #[.bool false, .bool false, .int .u64 0, .slice none 0 0], .agg #[.bool false, .bool false, .int .u64 0, .slice none 0 0]] (by kernel_rfl) w
theorem run_nil (b m : Array Value) (w : World) : Fn Tryz.prog 7 #[.pointer none, .agg b, .agg m] w fun v N => v = .agg #[.bool false, .bool false, .int .u64 0, .slice none 0 0] ∧ N = [] := by
  refine Fn_of (args := [.pointer none, .agg b, .agg m]) Tryz.func7 rfl Tryz.ntmps7 Tryz.results7 (by simp) ?_
  refine T_seq ?_
  refine T_region ?_
  refine S_boxA rfl rfl rfl fun _ => ?_
  refine S_boxA rfl rfl rfl fun _ => ?_
  refine S_allocA (cs := #[.bool false, .bool false, .int .u64 0, .slice none 0 0]) (by kernel_rfl) rfl rfl fun _ => ?_
  refine S_nil ?_
  refine X_seq ?_
  refine T_seq ?_
  refine T_seq ?_
  refine T_region ?_
  refine S_val rfl rfl (Y_move rfl) ?_
  refine S_val rfl rfl (Y_pure (v := .bool true) (by kernel_rfl) (by kernel_rfl)) ?_
  refine S_nil ?_
  refine X_seq ?_
  refine T_cond_true rfl ?_
  refine T_seq ?_
  refine T_region ?_
  refine S_val rfl rfl (Y_pure (v := .agg #[.bool false, .bool false, .int .u64 0, .slice none 0 0]) (by kernel_rfl) (by kernel_rfl)) ?_
  refine S_storeA 2 (by kernel_rfl) rfl rfl (by kernel_rfl) rfl rfl rfl ?_
  refine S_nil ?_
  refine X_seq ?_
  refine T_ret ?_
  refine X_seq_ret ?_
  refine X_fin_ret ?_
  exact ⟨[_], [], .cons (Res1_aggT 2 rfl (by kernel_rfl) rfl (by kernel_rfl)) .nil, Emb.nil _, rfl, rfl⟩
def zBlk : Array Value := Array.mk (List.replicate 3 (.int .u64 0) ++ List.replicate 20 (.int .u8 0) ++ List.replicate 9 (.int .u64 0) ++ [.slice none 0 0])
theorem evmNil_law (cs : Array Value) (hs : cs.size = 72) (a : Option Addr) (n c : Nat) (hd : cs[45]? = some (.slice a n c)) (w : World) : Fn Tryz.prog 3 #[.agg cs] w fun v N => v = .bool true ∧ N = [] := by
  refine Fn_of (args := [.agg cs]) Tryz.func3 rfl Tryz.ntmps3 Tryz.results3 (by simp) ?_
  refine T_seq ?_
  refine T_region ?_
  refine S_boxA rfl rfl rfl fun _ => ?_
  refine S_val rfl rfl (Y_assign rfl) ?_
  refine S_nil ?_
  refine X_seq ?_
  refine T_seq ?_
  refine T_seq ?_
  refine T_region ?_
  refine S_val rfl rfl (Y_fieldA 45 (by kernel_rfl) rfl) ?_
  refine S_val rfl rfl (Y_load1 0 (und rfl) rfl rfl rfl hd) ?_
  refine S_val rfl rfl (Y_len rfl (und rfl) rfl) ?_
  refine S_val rfl rfl (Y_gtr rfl rfl) ?_
  refine S_nil ?_
  refine X_seq ?_
  refine T_cond rfl (fun h => ?_) (fun h => ?_)
  · refine T_seq ?_
    refine T_region ?_
    refine S_callV rfl rfl (bod rfl) (fun w hs => fixed18_any _) rfl rfl ?_
    refine S_val rfl rfl (Y_assign rfl) ?_
    refine S_nil ?_
    refine X_seq ?_
    refine T_ret ?_
    refine X_seq_ret ?_
    ((first | refine X_fin_ret ?_ | refine X_fin ?_); exact ⟨[_], [], .cons (.tmp rfl) .nil, Emb.nil _, rfl, rfl⟩)
  · refine T_skip ?_
    refine X_seq ?_
    refine T_seq ?_
    refine T_region ?_
    refine S_callV rfl rfl (bod rfl) (fun w hs => fixed18_any _) rfl rfl ?_
    refine S_val rfl rfl (Y_move rfl) ?_
    refine S_val rfl rfl (Y_pure (v := .agg zBlk) (by kernel_rfl) (by kernel_rfl)) ?_
    refine S_val rfl rfl (Y_loadAT 0 (by kernel_rfl) rfl rfl (by rw [hs]; kernel_rfl)) ?_
    refine S_callV rfl rfl (bod rfl) (fun w hs => run_nil _ _ _) rfl rfl ?_
    refine S_val rfl rfl (Y_pure (v := .agg #[.bool false, .bool false, .int .u64 0, .slice none 0 0]) (by kernel_rfl) (by kernel_rfl)) ?_
    refine S_callV rfl rfl (bod rfl) (fun w hs => same_zero _) rfl rfl ?_
    refine S_val rfl rfl (Y_pick_t rfl rfl) ?_
    refine S_val rfl rfl (Y_assign rfl) ?_
    refine S_nil ?_
    refine X_seq ?_
    refine T_ret ?_
    ((first | refine X_fin_ret ?_ | refine X_fin ?_); exact ⟨[_], [], .cons (.tmp rfl) .nil, Emb.nil _, rfl, rfl⟩)
end Go.Proofs.YtkhaindnbcgopaaGreatDoor
