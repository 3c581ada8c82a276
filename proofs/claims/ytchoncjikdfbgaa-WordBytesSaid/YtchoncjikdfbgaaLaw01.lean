import Derived.Test.YtchoncjikdfbgaaRef1
import Derived.Test.YtchoncjikdfbgaaOpen
/- The laws of layer 1: each hands back true. -/
namespace Go.Proofs.Ytchoncjikdfbgaa
open Go.RowKit
set_option maxRecDepth 10000
set_option maxHeartbeats 4000000

theorem fixed_any (w : World) : Fn Try.prog 13 #[] w fun v N => v = .bool true ∧ N = [] := by
  have e1 : dl 18446744073709551616 4 ((0 + 2 ^ 256 - 1) % 2 ^ 256) = dl 18446744073709551616 4 (2 ^ 256 - 1 - 0) := by decide +kernel
  have e2 : dl 18446744073709551616 4 (1 * 2 ^ 255 % 2 ^ 256 * 2 % 2 ^ 256) = fillI (List.replicate 4 0) [] := by decide +kernel
  have e3 : dl 18446744073709551616 4 (18446744073709551616 / 2 ^ 1) = dl 18446744073709551616 4 9223372036854775808 := by decide +kernel
  have e4 : bitLen 256 = 9 := by decide +kernel
  refine Fn_of (args := []) Try.func13 rfl Try.ntmps13 Try.results13 (by simp) ?_
  refine T_seq ?_
  refine T_region ?_
  refine S_val rfl rfl (Y_assign rfl) ?_
  refine S_nil ?_
  refine X_seq ?_
  refine T_seq ?_
  refine T_region ?_
  refine S_val rfl rfl (Y_build (und rfl) (siz rfl) (zer rfl) rfl rfl) ?_
  refine S_callV rfl rfl (bod rfl) (fun w hs => of_any 1 (by omega) _) rfl rfl ?_
  skip
  refine S_callV rfl rfl (bod rfl) (fun w hs => sub_any 0 1 (by omega) (by omega) _) rfl rfl ?_
  refine S_allocA (zer rfl) rfl rfl fun _ => ?_
  refine S_storeAI 0 (siz rfl) rfl rfl rfl rfl (dl_length _ _ _) rfl ?_
  refine S_nil ?_
  refine X_seq ?_
  refine T_seq ?_
  refine T_region ?_
  refine S_callV rfl rfl (bod rfl) (fun w hs => of_any 1 (by omega) _) rfl rfl ?_
  skip
  refine S_callV rfl rfl (bod rfl) (fun w hs => shl_any 1 255 (by omega) _) rfl rfl ?_
  skip
  refine S_callV rfl rfl (bod rfl) (fun w hs => of_any 2 (by omega) _) rfl rfl ?_
  skip
  refine S_callV rfl rfl (bod rfl) (fun w hs => mul_any (1 * 2 ^ 255 % 2 ^ 256) 2 _) rfl rfl ?_
  refine S_allocA (zer rfl) rfl rfl fun _ => ?_
  refine S_storeAI 1 (siz rfl) rfl rfl rfl rfl (dl_length _ _ _) rfl ?_
  refine S_nil ?_
  refine X_seq ?_
  refine T_seq ?_
  refine T_region ?_
  refine S_val rfl rfl (Y_build (und rfl) (siz rfl) (zer rfl) rfl rfl) ?_
  refine S_callV rfl rfl (bod rfl) (fun w hs => shr_any 18446744073709551616 1 (by omega) (by omega) _) rfl rfl ?_
  refine S_allocA (zer rfl) rfl rfl fun _ => ?_
  refine S_storeAI 2 (siz rfl) rfl rfl rfl rfl (dl_length _ _ _) rfl ?_
  refine S_nil ?_
  refine X_seq ?_
  refine T_seq ?_
  refine T_draw (by kernel_rfl) (by kernel_rfl) rfl ?_
  refine D0_valM rfl rfl rfl (Y_loadAI 0 (und rfl) rfl rfl rfl (siz rfl) (dl_length _ _ _)) ?_
  refine D0_val rfl rfl rfl (Y_build (und rfl) (siz rfl) (zer rfl) rfl rfl) ?_
  refine D0_callV rfl rfl (bod rfl) (fun w hs => not_any 0 (by omega) _) rfl rfl ?_
  refine D0_val rfl rfl rfl (Y_eqlA_t (eqg rfl) (und rfl) (und rfl) (siz rfl) rfl rfl (dl_length _ _ _) rfl) ?_
  refine D0_val rfl rfl rfl (Y_move rfl) ?_
  refine D0_valM rfl rfl rfl (Y_loadAI 1 (und rfl) rfl rfl rfl (siz rfl) (dl_length _ _ _)) ?_
  refine D0_val rfl rfl rfl (Y_build (und rfl) (siz rfl) (zer rfl) rfl rfl) ?_
  refine D0_val rfl rfl rfl (Y_eqlA_t (eqg rfl) (und rfl) (und rfl) (siz rfl) rfl rfl (dl_length _ _ _) rfl) ?_
  refine D0_val rfl rfl rfl (Y_pick_t rfl rfl) ?_
  refine D0_val rfl rfl rfl (Y_move rfl) ?_
  refine D0_valM rfl rfl rfl (Y_loadAI 2 (und rfl) rfl rfl rfl (siz rfl) (dl_length _ _ _)) ?_
  refine D0_callV rfl rfl (bod rfl) (fun w hs => of_any 9223372036854775808 (by omega) _) rfl rfl ?_
  refine D0_val rfl rfl rfl (Y_eqlA_t (eqg rfl) (und rfl) (und rfl) (siz rfl) rfl rfl (dl_length _ _ _) rfl) ?_
  refine D0_val rfl rfl rfl (Y_pick_t rfl rfl) ?_
  refine D0_val rfl rfl rfl (Y_move rfl) ?_
  refine D0_callV rfl rfl (bod rfl) (fun w hs => of_any 256 (by omega) _) rfl rfl ?_
  skip
  refine D0_callV rfl rfl (bod rfl) (fun w hs => len_any 256 (by omega) _) rfl rfl ?_
  refine D0_val rfl rfl rfl (Y_eql_t rfl rfl (by decide)) ?_
  refine D0_val rfl rfl rfl (Y_pick_t rfl rfl) ?_
  refine D0_val rfl rfl rfl (Y_assign rfl) ?_
  refine D0_nil ?_
  refine X_seq ?_
  refine T_ret ?_
  ((first | refine X_fin_ret ?_ | refine X_fin ?_); exact ⟨[_], [], .cons (.tmp rfl) .nil, Emb.nil _, rfl, rfl⟩)
end Go.Proofs.Ytchoncjikdfbgaa
