import Derived.Test.YtbmfflmlkkjjjaaLaw01
/- The law WordRing hands back true. -/
namespace Go.Proofs.Ytbmfflmlkkjjjaa
open Go.RowKit
set_option maxRecDepth 10000
set_option maxHeartbeats 4000000

theorem ring_any (x : Nat) (hx : x < 2 ^ 256) (y : Nat) (hy : y < 2 ^ 256) (z : Nat) (hz : z < 2 ^ 256) (w : World) : Fn Try.prog 7 #[W x, W y, W z] w fun v N => v = .bool true ∧ N = [] := by
  have m (t : Nat) : t % 2 ^ 256 < 2 ^ 256 := Nat.mod_lt _ (by omega)
  have e1 : dl 18446744073709551616 4 ((x + y) % 2 ^ 256) = dl 18446744073709551616 4 ((y + x) % 2 ^ 256) := by rw [Nat.add_comm]
  have e2 : dl 18446744073709551616 4 (x * y % 2 ^ 256) = dl 18446744073709551616 4 (y * x % 2 ^ 256) := by rw [Nat.mul_comm]
  have e3 : dl 18446744073709551616 4 (((x + y) % 2 ^ 256 + z) % 2 ^ 256) = dl 18446744073709551616 4 ((x + (y + z) % 2 ^ 256) % 2 ^ 256) := by
    rw [Nat.mod_add_mod, Nat.add_mod_mod, Nat.add_assoc]
  have e4 : dl 18446744073709551616 4 (x * y % 2 ^ 256 * z % 2 ^ 256) = dl 18446744073709551616 4 (x * (y * z % 2 ^ 256) % 2 ^ 256) := by
    rw [Nat.mod_mul_mod, Nat.mul_mod_mod, Nat.mul_assoc]
  have e5 : dl 18446744073709551616 4 (x * ((y + z) % 2 ^ 256) % 2 ^ 256) = dl 18446744073709551616 4 ((x * y % 2 ^ 256 + x * z % 2 ^ 256) % 2 ^ 256) := by
    rw [Nat.mul_mod_mod, ← Nat.add_mod, Nat.mul_add]
  refine Fn_of (args := [W x, W y, W z]) Try.func7 rfl Try.ntmps7 Try.results7 (by simp) ?_
  refine T_seq ?_
  refine T_region ?_
  refine S_boxA rfl rfl rfl fun _ => ?_
  refine S_boxA rfl rfl rfl fun _ => ?_
  refine S_boxA rfl rfl rfl fun _ => ?_
  refine S_val rfl rfl (Y_assign rfl) ?_
  refine S_nil ?_
  refine X_seq ?_
  refine T_seq ?_
  refine T_seq ?_
  refine T_draw (by kernel_rfl) (by kernel_rfl) ?_
  refine D0_valM rfl rfl rfl (Y_loadAI 0 (und rfl) rfl rfl rfl (siz rfl) (dl_length _ _ _)) ?_
  refine D0_valM rfl rfl rfl (Y_loadAI 1 (und rfl) rfl rfl rfl (siz rfl) (dl_length _ _ _)) ?_
  refine D0_callV rfl rfl (bod rfl) (fun w _ => add_any x y hx hy _) rfl rfl ?_
  refine D0_valM rfl rfl rfl (Y_loadAI 1 (und rfl) rfl rfl rfl (siz rfl) (dl_length _ _ _)) ?_
  refine D0_valM rfl rfl rfl (Y_loadAI 0 (und rfl) rfl rfl rfl (siz rfl) (dl_length _ _ _)) ?_
  refine D0_callV rfl rfl (bod rfl) (fun w _ => add_any y x hy hx _) rfl rfl ?_
  refine D0_val rfl rfl rfl (Y_neqA_f (eqg rfl) (und rfl) (und rfl) (siz rfl) rfl rfl (dl_length _ _ _) (by assumption)) ?_
  refine D0_val rfl rfl rfl (Y_move rfl) ?_
  refine D0_valM rfl rfl rfl (Y_loadAI 0 (und rfl) rfl rfl rfl (siz rfl) (dl_length _ _ _)) ?_
  refine D0_valM rfl rfl rfl (Y_loadAI 1 (und rfl) rfl rfl rfl (siz rfl) (dl_length _ _ _)) ?_
  refine D0_callV rfl rfl (bod rfl) (fun w _ => mul_any x y _) rfl rfl ?_
  refine D0_valM rfl rfl rfl (Y_loadAI 1 (und rfl) rfl rfl rfl (siz rfl) (dl_length _ _ _)) ?_
  refine D0_valM rfl rfl rfl (Y_loadAI 0 (und rfl) rfl rfl rfl (siz rfl) (dl_length _ _ _)) ?_
  refine D0_callV rfl rfl (bod rfl) (fun w _ => mul_any y x _) rfl rfl ?_
  refine D0_val rfl rfl rfl (Y_neqA_f (eqg rfl) (und rfl) (und rfl) (siz rfl) rfl rfl (dl_length _ _ _) (by assumption)) ?_
  refine D0_val rfl rfl rfl (Y_pick_f rfl rfl) ?_
  refine D0_val rfl rfl rfl (Y_move rfl) ?_
  refine D0_valM rfl rfl rfl (Y_loadAI 0 (und rfl) rfl rfl rfl (siz rfl) (dl_length _ _ _)) ?_
  refine D0_valM rfl rfl rfl (Y_loadAI 1 (und rfl) rfl rfl rfl (siz rfl) (dl_length _ _ _)) ?_
  refine D0_callV rfl rfl (bod rfl) (fun w _ => add_any x y hx hy _) rfl rfl ?_
  refine D0_valM rfl rfl rfl (Y_loadAI 2 (und rfl) rfl rfl rfl (siz rfl) (dl_length _ _ _)) ?_
  refine D0_callV rfl rfl (bod rfl) (fun w _ => add_any _ z (m _) hz _) rfl rfl ?_
  refine D0_valM rfl rfl rfl (Y_loadAI 0 (und rfl) rfl rfl rfl (siz rfl) (dl_length _ _ _)) ?_
  refine D0_valM rfl rfl rfl (Y_loadAI 1 (und rfl) rfl rfl rfl (siz rfl) (dl_length _ _ _)) ?_
  refine D0_valM rfl rfl rfl (Y_loadAI 2 (und rfl) rfl rfl rfl (siz rfl) (dl_length _ _ _)) ?_
  refine D0_callV rfl rfl (bod rfl) (fun w _ => add_any y z hy hz _) rfl rfl ?_
  skip
  refine D0_callV rfl rfl (bod rfl) (fun w _ => add_any x _ hx (m _) _) rfl rfl ?_
  refine D0_val rfl rfl rfl (Y_neqA_f (eqg rfl) (und rfl) (und rfl) (siz rfl) rfl rfl (dl_length _ _ _) (by assumption)) ?_
  refine D0_val rfl rfl rfl (Y_pick_f rfl rfl) ?_
  refine D0_nil ?_
  refine X_seq ?_
  refine T_cond_false rfl ?_
  refine T_skip ?_
  refine X_seq ?_
  refine T_seq ?_
  refine T_draw (by kernel_rfl) (by kernel_rfl) ?_
  refine D0_callV rfl rfl (bod rfl) (fun w _ => fixed_any _) rfl rfl ?_
  refine D0_val rfl rfl rfl (Y_move rfl) ?_
  refine D0_valM rfl rfl rfl (Y_loadAI 0 (und rfl) rfl rfl rfl (siz rfl) (dl_length _ _ _)) ?_
  refine D0_valM rfl rfl rfl (Y_loadAI 1 (und rfl) rfl rfl rfl (siz rfl) (dl_length _ _ _)) ?_
  refine D0_callV rfl rfl (bod rfl) (fun w _ => mul_any x y _) rfl rfl ?_
  refine D0_valM rfl rfl rfl (Y_loadAI 2 (und rfl) rfl rfl rfl (siz rfl) (dl_length _ _ _)) ?_
  refine D0_callV rfl rfl (bod rfl) (fun w _ => mul_any _ z _) rfl rfl ?_
  refine D0_valM rfl rfl rfl (Y_loadAI 0 (und rfl) rfl rfl rfl (siz rfl) (dl_length _ _ _)) ?_
  refine D0_valM rfl rfl rfl (Y_loadAI 1 (und rfl) rfl rfl rfl (siz rfl) (dl_length _ _ _)) ?_
  refine D0_valM rfl rfl rfl (Y_loadAI 2 (und rfl) rfl rfl rfl (siz rfl) (dl_length _ _ _)) ?_
  refine D0_callV rfl rfl (bod rfl) (fun w _ => mul_any y z _) rfl rfl ?_
  skip
  refine D0_callV rfl rfl (bod rfl) (fun w _ => mul_any x _ _) rfl rfl ?_
  refine D0_val rfl rfl rfl (Y_eqlA_t (eqg rfl) (und rfl) (und rfl) (siz rfl) rfl rfl (dl_length _ _ _) (by assumption)) ?_
  refine D0_val rfl rfl rfl (Y_pick_t rfl rfl) ?_
  refine D0_val rfl rfl rfl (Y_move rfl) ?_
  refine D0_valM rfl rfl rfl (Y_loadAI 0 (und rfl) rfl rfl rfl (siz rfl) (dl_length _ _ _)) ?_
  refine D0_valM rfl rfl rfl (Y_loadAI 1 (und rfl) rfl rfl rfl (siz rfl) (dl_length _ _ _)) ?_
  refine D0_valM rfl rfl rfl (Y_loadAI 2 (und rfl) rfl rfl rfl (siz rfl) (dl_length _ _ _)) ?_
  refine D0_callV rfl rfl (bod rfl) (fun w _ => add_any y z hy hz _) rfl rfl ?_
  skip
  refine D0_callV rfl rfl (bod rfl) (fun w _ => mul_any x _ _) rfl rfl ?_
  refine D0_valM rfl rfl rfl (Y_loadAI 0 (und rfl) rfl rfl rfl (siz rfl) (dl_length _ _ _)) ?_
  refine D0_valM rfl rfl rfl (Y_loadAI 1 (und rfl) rfl rfl rfl (siz rfl) (dl_length _ _ _)) ?_
  refine D0_callV rfl rfl (bod rfl) (fun w _ => mul_any x y _) rfl rfl ?_
  refine D0_valM rfl rfl rfl (Y_loadAI 0 (und rfl) rfl rfl rfl (siz rfl) (dl_length _ _ _)) ?_
  refine D0_valM rfl rfl rfl (Y_loadAI 2 (und rfl) rfl rfl rfl (siz rfl) (dl_length _ _ _)) ?_
  refine D0_callV rfl rfl (bod rfl) (fun w _ => mul_any x z _) rfl rfl ?_
  skip
  refine D0_callV rfl rfl (bod rfl) (fun w _ => add_any _ _ (m _) (m _) _) rfl rfl ?_
  refine D0_val rfl rfl rfl (Y_eqlA_t (eqg rfl) (und rfl) (und rfl) (siz rfl) rfl rfl (dl_length _ _ _) (by assumption)) ?_
  refine D0_val rfl rfl rfl (Y_pick_t rfl rfl) ?_
  refine D0_val rfl rfl rfl (Y_assign rfl) ?_
  refine D0_nil ?_
  refine X_seq ?_
  refine T_ret ?_
  ((first | refine X_fin_ret ?_ | refine X_fin ?_); exact ⟨[_], [], .cons (.tmp rfl) .nil, List.nil_sublist _, rfl, rfl⟩)
end Go.Proofs.Ytbmfflmlkkjjjaa
