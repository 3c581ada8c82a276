import Derived.Test.YtbmfflmlkkjjjaaLaw01
import Derived.Test.YtbmfflmlkkjjjaaRef2
/- The law WordShifts hands back true. -/
namespace Go.Proofs.Ytbmfflmlkkjjjaa
open Go.RowKit
set_option maxRecDepth 10000
set_option maxHeartbeats 4000000

theorem up_eq (x n : Nat) : shN x ((min n 300 : Nat) : Int) = x * 2 ^ n % 2 ^ 256 := by
  unfold shN
  rw [if_pos (by omega), Int.toNat_natCast]
  by_cases h : n < 300
  · rw [Nat.min_eq_left (by omega)]
  · have z : ∀ m, 256 ≤ m → x * 2 ^ m % 2 ^ 256 = 0 := fun m hm => by
      obtain ⟨k, rfl⟩ := Nat.exists_eq_add_of_le hm
      rw [Nat.pow_add, show x * (2 ^ 256 * 2 ^ k) = 2 ^ 256 * (x * 2 ^ k) by rw [Nat.mul_left_comm]]
      exact Nat.mul_mod_right _ _
    rw [z _ (by omega), z _ (by omega)]
theorem down_eq (x n : Nat) (hx : x < 2 ^ 256) : shN x (0 - ((min n 300 : Nat) : Int)) = x / 2 ^ n := by
  rw [Int.zero_sub]
  by_cases h0 : min n 300 = 0
  · have : n = 0 := by omega
    subst this
    unfold shN
    rw [h0, if_pos (by omega)]
    simp only [Int.natCast_zero, Int.neg_zero, Int.toNat_zero, Nat.pow_zero, Nat.mul_one, Nat.div_one]
    exact Nat.mod_eq_of_lt hx
  · unfold shN
    rw [if_neg (by omega), Int.neg_neg, Int.toNat_natCast]
    by_cases h : n < 300
    · rw [Nat.min_eq_left (by omega)]
    · have z : ∀ m, 256 ≤ m → x / 2 ^ m = 0 := fun m hm => Nat.div_eq_of_lt (Nat.lt_of_lt_of_le hx (Nat.pow_le_pow_right (by omega) hm))
      rw [z _ (by omega), z _ (by omega)]

theorem shifts_any (x : Nat) (hx : x < 2 ^ 256) (n : Nat) (hn : n < 18446744073709551616) (w : World) : Fn Try.prog 4 #[W x, .int .u64 n] w fun v N => v = .bool true ∧ N = [] := by
  have e1 : dl 18446744073709551616 4 (x * 2 ^ n % 2 ^ 256) = dl 18446744073709551616 4 (shN x ((min n 300 : Nat) : Int)) := by rw [up_eq]
  have e2 : dl 18446744073709551616 4 (x / 2 ^ n) = dl 18446744073709551616 4 (shN x (0 - ((min n 300 : Nat) : Int))) := by rw [down_eq x n hx]
  have hk : min n 300 ≤ 300 := Nat.min_le_right _ _
  refine Fn_of (args := [W x, .int .u64 n]) Try.func4 rfl Try.ntmps4 Try.results4 (by simp) ?_
  refine T_seq ?_
  refine T_region ?_
  refine S_boxA rfl rfl rfl fun _ => ?_
  refine S_val rfl rfl (Y_assign rfl) ?_
  refine S_nil ?_
  refine X_seq ?_
  refine T_seq ?_
  refine T_region ?_
  refine S_val rfl rfl (Y_move rfl) ?_
  refine S_val rfl rfl (Y_min rfl rfl (nat_cast _) (nat_lit' _)) ?_
  refine S_val rfl rfl (Y_conv (und rfl) (und rfl) rfl (wi64 (by omega) (by omega))) ?_
  refine S_val rfl rfl (Y_assign rfl) ?_
  refine S_nil ?_
  refine X_seq ?_
  refine T_seq ?_
  refine T_region ?_
  refine S_val rfl rfl (Y_loadAI 0 (und rfl) rfl rfl rfl (siz rfl) (dl_length _ _ _)) ?_
  refine S_callV rfl rfl (bod rfl) (fun w _ => rof_any x _) rfl rfl ?_
  refine S_allocA (zer rfl) rfl rfl fun _ => ?_
  refine S_storeAI 1 (siz rfl) rfl rfl rfl rfl (dl_length _ _ _) rfl ?_
  refine S_nil ?_
  refine X_seq ?_
  refine T_seq ?_
  refine T_draw (by kernel_rfl) (by kernel_rfl) ?_
  refine D0_callV rfl rfl (bod rfl) (fun w _ => fixed_any _) rfl rfl ?_
  refine D0_val rfl rfl rfl (Y_move rfl) ?_
  refine D0_valM rfl rfl rfl (Y_loadAI 0 (und rfl) rfl rfl rfl (siz rfl) (dl_length _ _ _)) ?_
  refine D0_val rfl rfl rfl (Y_move rfl) ?_
  refine D0_callV rfl rfl (bod rfl) (fun w _ => shl_any x n hn _) rfl rfl ?_
  refine D0_valM rfl rfl rfl (Y_loadAI 1 (und rfl) rfl rfl rfl (siz rfl) (dl_length _ _ _)) ?_
  refine D0_val rfl rfl rfl (Y_move rfl) ?_
  refine D0_callV rfl rfl (bod rfl) (fun w _ => rshift_any x hx _ (by omega) _) rfl rfl ?_
  skip
  refine D0_callV rfl rfl (bod rfl) (fun w _ => rword_any _ _) rfl rfl ?_
  refine D0_val rfl rfl rfl (Y_eqlA_t (eqg rfl) (und rfl) (und rfl) (siz rfl) rfl rfl (dl_length _ _ _) (by assumption)) ?_
  refine D0_val rfl rfl rfl (Y_pick_t rfl rfl) ?_
  refine D0_val rfl rfl rfl (Y_move rfl) ?_
  refine D0_valM rfl rfl rfl (Y_loadAI 0 (und rfl) rfl rfl rfl (siz rfl) (dl_length _ _ _)) ?_
  refine D0_val rfl rfl rfl (Y_move rfl) ?_
  refine D0_callV rfl rfl (bod rfl) (fun w _ => shr_any x n hx hn _) rfl rfl ?_
  refine D0_valM rfl rfl rfl (Y_loadAI 1 (und rfl) rfl rfl rfl (siz rfl) (dl_length _ _ _)) ?_
  refine D0_val rfl rfl rfl (Y_move rfl) ?_
  refine D0_val rfl rfl rfl (Y_neg rfl (wi64 (by omega) (by omega))) ?_
  refine D0_callV rfl rfl (bod rfl) (fun w _ => rshift_any x hx _ (by omega) _) rfl rfl ?_
  skip
  refine D0_callV rfl rfl (bod rfl) (fun w _ => rword_any _ _) rfl rfl ?_
  refine D0_val rfl rfl rfl (Y_eqlA_t (eqg rfl) (und rfl) (und rfl) (siz rfl) rfl rfl (dl_length _ _ _) (by assumption)) ?_
  refine D0_val rfl rfl rfl (Y_pick_t rfl rfl) ?_
  refine D0_val rfl rfl rfl (Y_assign rfl) ?_
  refine D0_nil ?_
  refine X_seq ?_
  refine T_ret ?_
  ((first | refine X_fin_ret ?_ | refine X_fin ?_); exact ⟨[_], [], .cons (.tmp rfl) .nil, List.nil_sublist _, rfl, rfl⟩)
end Go.Proofs.Ytbmfflmlkkjjjaa
