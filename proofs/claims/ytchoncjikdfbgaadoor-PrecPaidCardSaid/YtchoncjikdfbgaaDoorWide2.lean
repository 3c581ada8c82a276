import Derived.Test.YtchoncjikdfbgaaDoorDiv64
import Derived.Test.YtchoncjikdfbgaaDoorFee0
/- Quotients of words. -/
namespace Go.Proofs.YtchoncjikdfbgaaDoor
open Go.RowKit
set_option maxRecDepth 20000
set_option maxHeartbeats 4000000

theorem step_any (l m b : Nat) (hm : m < 2 ^ 256) (hl : l < m) (hb : b < 2) (w : World) :
    Fn Tryd.prog 49 #[W l, W m, .bool (decide (b = 1))] w fun v N => v = .tuple #[W ((2 * l + b) % m), .bool (decide (m ≤ 2 * l + b))] ∧ N = [] := by
  have hl2 : l < 2 ^ 256 := by omega
  have s1 : ∀ w, Fn Tryd.prog 69 #[W l, .int .u64 1] w fun v N => v = W (2 * l % 2 ^ 256) ∧ N = [] := fun w => by
    have := shl_any l 1 (by omega) w
    rwa [show l * 2 ^ 1 % 2 ^ 256 = 2 * l % 2 ^ 256 by omega] at this
  have hov : l.testBit 255 = decide (2 ^ 256 ≤ 2 * l) := by
    rw [Nat.testBit_eq_decide_div_mod_eq]
    congr 1
    apply propext
    omega
  have hbt := fun w => bit_any l 255 hl2 (by omega) w
  rw [hov] at hbt
  have hev : 2 * l % 2 ^ 256 % 2 = 0 := by omega
  have hd0 := digit_lt (2 * l % 2 ^ 256) 0
  obtain ⟨k, hk⟩ : ∃ k, k = 2 * l % 2 ^ 256 + b := ⟨_, rfl⟩
  have hkl : k < 2 ^ 256 := by omega
  have hsub : m ≤ 2 * l + b → (∀ w, Fn Tryd.prog 71 #[W k, W m] w fun v N => v = W ((2 * l + b) % m) ∧ N = []) := fun h w => by
    have := sub_any k m hkl hm w
    have e1 : (k + 2 ^ 256 - m) % 2 ^ 256 = 2 * l + b - m := by omega
    have e2 : (2 * l + b) % m = 2 * l + b - m := by
      rw [Nat.mod_eq_sub_mod h, Nat.mod_eq_of_lt (by omega)]
    rwa [e1, ← e2] at this
  have hk0 : b = 0 → 2 * l % 2 ^ 256 = k := fun h => by omega
  have hk1 : b = 1 → 2 * l % 2 ^ 256 + 1 = k := fun h => by omega
  by_cases h1 : 2 ^ 256 ≤ 2 * l
  · rw [decide_eq_true h1] at hbt
    have hge : m ≤ 2 * l + b := by omega
    have hsb := hsub hge
    rw [decide_eq_true hge]
    by_cases h2 : b = 1
    · rw [decide_eq_true h2]
      refine Fn_of (args := [W l, W m, .bool true]) Tryd.func49 rfl Tryd.ntmps49 Tryd.results49 (by simp) ?_
      refine T_seq ?_
      refine T_region ?_
      refine S_boxA rfl rfl rfl fun _ => ?_
      refine S_boxA rfl rfl rfl fun _ => ?_
      refine S_allocA (zer rfl) rfl rfl fun _ => ?_
      refine S_val rfl rfl (Y_assign rfl) ?_
      refine S_nil ?_
      refine X_seq ?_
      refine T_seq ?_
      refine T_region ?_
      refine S_val rfl rfl (Y_loadAI 0 (und rfl) rfl rfl rfl (siz rfl) (dl_length _ _ _)) ?_
      refine S_callV rfl rfl (bod rfl) (fun w hs => hbt _) rfl rfl ?_
      refine S_val rfl rfl (Y_assign rfl) ?_
      refine S_nil ?_
      refine X_seq ?_
      refine T_seq ?_
      refine T_region ?_
      refine S_val rfl rfl (Y_loadAI 0 (und rfl) rfl rfl rfl (siz rfl) (dl_length _ _ _)) ?_
      refine S_callV rfl rfl (bod rfl) (fun w hs => s1 _) rfl rfl ?_
      refine S_storeAI 0 (siz rfl) rfl rfl rfl (dl_length _ _ _) (dl_length _ _ _) rfl ?_
      refine S_nil ?_
      refine X_seq ?_
      refine T_seq ?_
      refine T_seq ?_
      refine T_region ?_
      refine S_val rfl rfl (Y_move rfl) ?_
      refine S_nil ?_
      refine X_seq ?_
      refine T_cond_true rfl ?_
      refine T_region ?_
      refine S_val rfl rfl (Y_ixa (und rfl) (siz rfl) rfl rfl (nat_lit' _) (Nat.le_of_ble_eq_true rfl)) ?_
      refine S_val rfl rfl (Y_loadI 0 (und rfl) rfl rfl rfl (dl_get (Nat.le_of_ble_eq_true rfl))) ?_
      refine S_val rfl rfl (Y_or rfl rfl (nat_cast _) (nat_lit' _) rfl (by simp only [IntKind.bits]; assumption) (by simp only [IntKind.bits]; omega)) ?_
      refine S_val rfl rfl (Y_ixa (und rfl) (siz rfl) rfl rfl (nat_lit' _) (Nat.le_of_ble_eq_true rfl)) ?_
      refine S_storeI 0 (siz rfl) rfl rfl rfl (Nat.le_of_ble_eq_true rfl) rfl rfl ?_
      refine S_nil ?_
      refine X_seq ?_
      refine T_seq ?_
      refine T_seq ?_
      refine T_region ?_
      refine S_val rfl rfl (Y_move rfl) ?_
      refine S_val rfl rfl (Y_move rfl) ?_
      refine S_skip rfl rfl ?_
      refine S_skip rfl rfl ?_
      refine S_skip rfl rfl ?_
      refine S_skip rfl rfl ?_
      refine S_val rfl rfl (Y_pick_t rfl rfl) ?_
      refine S_nil ?_
      refine X_seq ?_
      refine T_cond_true rfl ?_
      refine T_seq ?_
      refine T_region ?_
      refine S_val rfl rfl (Y_loadAI 0 (und rfl) rfl rfl rfl (siz rfl) rfl) ?_
      refine S_val rfl rfl (Y_loadAI 1 (und rfl) rfl rfl rfl (siz rfl) (dl_length _ _ _)) ?_
      rw [dl_or1 hev, hk1 h2]
      refine S_callV rfl rfl (bod rfl) (fun w hs => hsb _) rfl rfl ?_
      refine S_storeAI 2 (siz rfl) rfl rfl rfl rfl (dl_length _ _ _) rfl ?_
      refine S_val rfl rfl (Y_assign rfl) ?_
      refine S_nil ?_
      refine X_seq ?_
      refine T_ret ?_
      refine X_seq_ret ?_
      ((first | refine X_fin_ret ?_ | refine X_fin ?_); exact ⟨[_, _], [], .cons (.agg 2 rfl (und rfl) rfl rfl (siz rfl)) (.cons (.tmp rfl) .nil), Emb.nil _, rfl, rfl⟩)
    · rw [decide_eq_false h2]
      refine Fn_of (args := [W l, W m, .bool false]) Tryd.func49 rfl Tryd.ntmps49 Tryd.results49 (by simp) ?_
      refine T_seq ?_
      refine T_region ?_
      refine S_boxA rfl rfl rfl fun _ => ?_
      refine S_boxA rfl rfl rfl fun _ => ?_
      refine S_allocA (zer rfl) rfl rfl fun _ => ?_
      refine S_val rfl rfl (Y_assign rfl) ?_
      refine S_nil ?_
      refine X_seq ?_
      refine T_seq ?_
      refine T_region ?_
      refine S_val rfl rfl (Y_loadAI 0 (und rfl) rfl rfl rfl (siz rfl) (dl_length _ _ _)) ?_
      refine S_callV rfl rfl (bod rfl) (fun w hs => hbt _) rfl rfl ?_
      refine S_val rfl rfl (Y_assign rfl) ?_
      refine S_nil ?_
      refine X_seq ?_
      refine T_seq ?_
      refine T_region ?_
      refine S_val rfl rfl (Y_loadAI 0 (und rfl) rfl rfl rfl (siz rfl) (dl_length _ _ _)) ?_
      refine S_callV rfl rfl (bod rfl) (fun w hs => s1 _) rfl rfl ?_
      refine S_storeAI 0 (siz rfl) rfl rfl rfl (dl_length _ _ _) (dl_length _ _ _) rfl ?_
      refine S_nil ?_
      refine X_seq ?_
      refine T_seq ?_
      refine T_seq ?_
      refine T_region ?_
      refine S_val rfl rfl (Y_move rfl) ?_
      refine S_nil ?_
      refine X_seq ?_
      refine T_cond_false rfl ?_
      refine T_skip ?_
      refine X_seq ?_
      refine T_seq ?_
      refine T_seq ?_
      refine T_region ?_
      refine S_val rfl rfl (Y_move rfl) ?_
      refine S_val rfl rfl (Y_move rfl) ?_
      refine S_skip rfl rfl ?_
      refine S_skip rfl rfl ?_
      refine S_skip rfl rfl ?_
      refine S_skip rfl rfl ?_
      refine S_val rfl rfl (Y_pick_t rfl rfl) ?_
      refine S_nil ?_
      refine X_seq ?_
      refine T_cond_true rfl ?_
      refine T_seq ?_
      refine T_region ?_
      refine S_val rfl rfl (Y_loadAI 0 (und rfl) rfl rfl rfl (siz rfl) (dl_length _ _ _)) ?_
      refine S_val rfl rfl (Y_loadAI 1 (und rfl) rfl rfl rfl (siz rfl) (dl_length _ _ _)) ?_
      rw [hk0 (by omega)]
      refine S_callV rfl rfl (bod rfl) (fun w hs => hsb _) rfl rfl ?_
      refine S_storeAI 2 (siz rfl) rfl rfl rfl rfl (dl_length _ _ _) rfl ?_
      refine S_val rfl rfl (Y_assign rfl) ?_
      refine S_nil ?_
      refine X_seq ?_
      refine T_ret ?_
      refine X_seq_ret ?_
      ((first | refine X_fin_ret ?_ | refine X_fin ?_); exact ⟨[_, _], [], .cons (.agg 2 rfl (und rfl) rfl rfl (siz rfl)) (.cons (.tmp rfl) .nil), Emb.nil _, rfl, rfl⟩)
  · rw [decide_eq_false h1] at hbt
    have hke : k = 2 * l + b := by omega
    by_cases hge : m ≤ 2 * l + b
    · have hsb := hsub hge
      rw [decide_eq_true hge]
      obtain ⟨c, hc0, hc⟩ : ∃ c : Int, 0 ≤ c ∧ ∀ w, Fn Tryd.prog 70 #[W k, W m] w fun v N => v = .int .i64 c ∧ N = [] :=
        ⟨cmpI k m, by unfold cmpI; rw [if_neg (by omega)]; split <;> omega, fun w => compare_any k m hkl hm w⟩
      by_cases h2 : b = 1
      · rw [decide_eq_true h2]
        refine Fn_of (args := [W l, W m, .bool true]) Tryd.func49 rfl Tryd.ntmps49 Tryd.results49 (by simp) ?_
        refine T_seq ?_
        refine T_region ?_
        refine S_boxA rfl rfl rfl fun _ => ?_
        refine S_boxA rfl rfl rfl fun _ => ?_
        refine S_allocA (zer rfl) rfl rfl fun _ => ?_
        refine S_val rfl rfl (Y_assign rfl) ?_
        refine S_nil ?_
        refine X_seq ?_
        refine T_seq ?_
        refine T_region ?_
        refine S_val rfl rfl (Y_loadAI 0 (und rfl) rfl rfl rfl (siz rfl) (dl_length _ _ _)) ?_
        refine S_callV rfl rfl (bod rfl) (fun w hs => hbt _) rfl rfl ?_
        refine S_val rfl rfl (Y_assign rfl) ?_
        refine S_nil ?_
        refine X_seq ?_
        refine T_seq ?_
        refine T_region ?_
        refine S_val rfl rfl (Y_loadAI 0 (und rfl) rfl rfl rfl (siz rfl) (dl_length _ _ _)) ?_
        refine S_callV rfl rfl (bod rfl) (fun w hs => s1 _) rfl rfl ?_
        refine S_storeAI 0 (siz rfl) rfl rfl rfl (dl_length _ _ _) (dl_length _ _ _) rfl ?_
        refine S_nil ?_
        refine X_seq ?_
        refine T_seq ?_
        refine T_seq ?_
        refine T_region ?_
        refine S_val rfl rfl (Y_move rfl) ?_
        refine S_nil ?_
        refine X_seq ?_
        refine T_cond_true rfl ?_
        refine T_region ?_
        refine S_val rfl rfl (Y_ixa (und rfl) (siz rfl) rfl rfl (nat_lit' _) (Nat.le_of_ble_eq_true rfl)) ?_
        refine S_val rfl rfl (Y_loadI 0 (und rfl) rfl rfl rfl (dl_get (Nat.le_of_ble_eq_true rfl))) ?_
        refine S_val rfl rfl (Y_or rfl rfl (nat_cast _) (nat_lit' _) rfl (by simp only [IntKind.bits]; assumption) (by simp only [IntKind.bits]; omega)) ?_
        refine S_val rfl rfl (Y_ixa (und rfl) (siz rfl) rfl rfl (nat_lit' _) (Nat.le_of_ble_eq_true rfl)) ?_
        refine S_storeI 0 (siz rfl) rfl rfl rfl (Nat.le_of_ble_eq_true rfl) rfl rfl ?_
        refine S_nil ?_
        refine X_seq ?_
        refine T_seq ?_
        refine T_seq ?_
        refine T_region ?_
        refine S_val rfl rfl (Y_move rfl) ?_
        refine S_val rfl rfl (Y_move rfl) ?_
        refine S_val rfl rfl (Y_loadAI 0 (und rfl) rfl rfl rfl (siz rfl) rfl) ?_
        refine S_val rfl rfl (Y_loadAI 1 (und rfl) rfl rfl rfl (siz rfl) (dl_length _ _ _)) ?_
        rw [dl_or1 hev, hk1 h2]
        refine S_callV rfl rfl (bod rfl) (fun w hs => hc _) rfl rfl ?_
        refine S_val rfl rfl (Y_geq_t rfl rfl (by assumption)) ?_
        refine S_val rfl rfl (Y_pick_f rfl rfl) ?_
        refine S_nil ?_
        refine X_seq ?_
        refine T_cond_true rfl ?_
        refine T_seq ?_
        refine T_region ?_
        refine S_val rfl rfl (Y_loadAI 0 (und rfl) rfl rfl rfl (siz rfl) (dl_length _ _ _)) ?_
        refine S_val rfl rfl (Y_loadAI 1 (und rfl) rfl rfl rfl (siz rfl) (dl_length _ _ _)) ?_
        refine S_callV rfl rfl (bod rfl) (fun w hs => hsb _) rfl rfl ?_
        refine S_storeAI 2 (siz rfl) rfl rfl rfl rfl (dl_length _ _ _) rfl ?_
        refine S_val rfl rfl (Y_assign rfl) ?_
        refine S_nil ?_
        refine X_seq ?_
        refine T_ret ?_
        refine X_seq_ret ?_
        ((first | refine X_fin_ret ?_ | refine X_fin ?_); exact ⟨[_, _], [], .cons (.agg 2 rfl (und rfl) rfl rfl (siz rfl)) (.cons (.tmp rfl) .nil), Emb.nil _, rfl, rfl⟩)
      · rw [decide_eq_false h2]
        refine Fn_of (args := [W l, W m, .bool false]) Tryd.func49 rfl Tryd.ntmps49 Tryd.results49 (by simp) ?_
        refine T_seq ?_
        refine T_region ?_
        refine S_boxA rfl rfl rfl fun _ => ?_
        refine S_boxA rfl rfl rfl fun _ => ?_
        refine S_allocA (zer rfl) rfl rfl fun _ => ?_
        refine S_val rfl rfl (Y_assign rfl) ?_
        refine S_nil ?_
        refine X_seq ?_
        refine T_seq ?_
        refine T_region ?_
        refine S_val rfl rfl (Y_loadAI 0 (und rfl) rfl rfl rfl (siz rfl) (dl_length _ _ _)) ?_
        refine S_callV rfl rfl (bod rfl) (fun w hs => hbt _) rfl rfl ?_
        refine S_val rfl rfl (Y_assign rfl) ?_
        refine S_nil ?_
        refine X_seq ?_
        refine T_seq ?_
        refine T_region ?_
        refine S_val rfl rfl (Y_loadAI 0 (und rfl) rfl rfl rfl (siz rfl) (dl_length _ _ _)) ?_
        refine S_callV rfl rfl (bod rfl) (fun w hs => s1 _) rfl rfl ?_
        refine S_storeAI 0 (siz rfl) rfl rfl rfl (dl_length _ _ _) (dl_length _ _ _) rfl ?_
        refine S_nil ?_
        refine X_seq ?_
        refine T_seq ?_
        refine T_seq ?_
        refine T_region ?_
        refine S_val rfl rfl (Y_move rfl) ?_
        refine S_nil ?_
        refine X_seq ?_
        refine T_cond_false rfl ?_
        refine T_skip ?_
        refine X_seq ?_
        refine T_seq ?_
        refine T_seq ?_
        refine T_region ?_
        refine S_val rfl rfl (Y_move rfl) ?_
        refine S_val rfl rfl (Y_move rfl) ?_
        refine S_val rfl rfl (Y_loadAI 0 (und rfl) rfl rfl rfl (siz rfl) (dl_length _ _ _)) ?_
        refine S_val rfl rfl (Y_loadAI 1 (und rfl) rfl rfl rfl (siz rfl) (dl_length _ _ _)) ?_
        rw [hk0 (by omega)]
        refine S_callV rfl rfl (bod rfl) (fun w hs => hc _) rfl rfl ?_
        refine S_val rfl rfl (Y_geq_t rfl rfl (by assumption)) ?_
        refine S_val rfl rfl (Y_pick_f rfl rfl) ?_
        refine S_nil ?_
        refine X_seq ?_
        refine T_cond_true rfl ?_
        refine T_seq ?_
        refine T_region ?_
        refine S_val rfl rfl (Y_loadAI 0 (und rfl) rfl rfl rfl (siz rfl) (dl_length _ _ _)) ?_
        refine S_val rfl rfl (Y_loadAI 1 (und rfl) rfl rfl rfl (siz rfl) (dl_length _ _ _)) ?_
        refine S_callV rfl rfl (bod rfl) (fun w hs => hsb _) rfl rfl ?_
        refine S_storeAI 2 (siz rfl) rfl rfl rfl rfl (dl_length _ _ _) rfl ?_
        refine S_val rfl rfl (Y_assign rfl) ?_
        refine S_nil ?_
        refine X_seq ?_
        refine T_ret ?_
        refine X_seq_ret ?_
        ((first | refine X_fin_ret ?_ | refine X_fin ?_); exact ⟨[_, _], [], .cons (.agg 2 rfl (und rfl) rfl rfl (siz rfl)) (.cons (.tmp rfl) .nil), Emb.nil _, rfl, rfl⟩)
    · rw [decide_eq_false hge]
      obtain ⟨c, hc0, hc⟩ : ∃ c : Int, ¬ 0 ≤ c ∧ ∀ w, Fn Tryd.prog 70 #[W k, W m] w fun v N => v = .int .i64 c ∧ N = [] :=
        ⟨cmpI k m, by unfold cmpI; rw [if_pos (by omega)]; omega, fun w => compare_any k m hkl hm w⟩
      by_cases h2 : b = 1
      · rw [decide_eq_true h2]
        refine Fn_of (args := [W l, W m, .bool true]) Tryd.func49 rfl Tryd.ntmps49 Tryd.results49 (by simp) ?_
        refine T_seq ?_
        refine T_region ?_
        refine S_boxA rfl rfl rfl fun _ => ?_
        refine S_boxA rfl rfl rfl fun _ => ?_
        refine S_allocA (zer rfl) rfl rfl fun _ => ?_
        refine S_val rfl rfl (Y_assign rfl) ?_
        refine S_nil ?_
        refine X_seq ?_
        refine T_seq ?_
        refine T_region ?_
        refine S_val rfl rfl (Y_loadAI 0 (und rfl) rfl rfl rfl (siz rfl) (dl_length _ _ _)) ?_
        refine S_callV rfl rfl (bod rfl) (fun w hs => hbt _) rfl rfl ?_
        refine S_val rfl rfl (Y_assign rfl) ?_
        refine S_nil ?_
        refine X_seq ?_
        refine T_seq ?_
        refine T_region ?_
        refine S_val rfl rfl (Y_loadAI 0 (und rfl) rfl rfl rfl (siz rfl) (dl_length _ _ _)) ?_
        refine S_callV rfl rfl (bod rfl) (fun w hs => s1 _) rfl rfl ?_
        refine S_storeAI 0 (siz rfl) rfl rfl rfl (dl_length _ _ _) (dl_length _ _ _) rfl ?_
        refine S_nil ?_
        refine X_seq ?_
        refine T_seq ?_
        refine T_seq ?_
        refine T_region ?_
        refine S_val rfl rfl (Y_move rfl) ?_
        refine S_nil ?_
        refine X_seq ?_
        refine T_cond_true rfl ?_
        refine T_region ?_
        refine S_val rfl rfl (Y_ixa (und rfl) (siz rfl) rfl rfl (nat_lit' _) (Nat.le_of_ble_eq_true rfl)) ?_
        refine S_val rfl rfl (Y_loadI 0 (und rfl) rfl rfl rfl (dl_get (Nat.le_of_ble_eq_true rfl))) ?_
        refine S_val rfl rfl (Y_or rfl rfl (nat_cast _) (nat_lit' _) rfl (by simp only [IntKind.bits]; assumption) (by simp only [IntKind.bits]; omega)) ?_
        refine S_val rfl rfl (Y_ixa (und rfl) (siz rfl) rfl rfl (nat_lit' _) (Nat.le_of_ble_eq_true rfl)) ?_
        refine S_storeI 0 (siz rfl) rfl rfl rfl (Nat.le_of_ble_eq_true rfl) rfl rfl ?_
        refine S_nil ?_
        refine X_seq ?_
        refine T_seq ?_
        refine T_seq ?_
        refine T_region ?_
        refine S_val rfl rfl (Y_move rfl) ?_
        refine S_val rfl rfl (Y_move rfl) ?_
        refine S_val rfl rfl (Y_loadAI 0 (und rfl) rfl rfl rfl (siz rfl) rfl) ?_
        refine S_val rfl rfl (Y_loadAI 1 (und rfl) rfl rfl rfl (siz rfl) (dl_length _ _ _)) ?_
        rw [dl_or1 hev, hk1 h2]
        refine S_callV rfl rfl (bod rfl) (fun w hs => hc _) rfl rfl ?_
        refine S_val rfl rfl (Y_geq_f rfl rfl (by assumption)) ?_
        refine S_val rfl rfl (Y_pick_f rfl rfl) ?_
        refine S_nil ?_
        refine X_seq ?_
        refine T_cond_false rfl ?_
        refine T_skip ?_
        refine X_seq ?_
        refine T_seq ?_
        refine T_region ?_
        refine S_val rfl rfl (Y_loadAI 0 (und rfl) rfl rfl rfl (siz rfl) (dl_length _ _ _)) ?_
        refine S_storeAI 2 (siz rfl) rfl rfl rfl rfl (dl_length _ _ _) rfl ?_
        refine S_val rfl rfl (Y_assign rfl) ?_
        refine S_nil ?_
        refine X_seq ?_
        refine T_ret ?_
        ((first | refine X_fin_ret ?_ | refine X_fin ?_); exact ⟨[_, _], [], .cons (.agg 2 rfl (und rfl) rfl rfl (siz rfl)) (.cons (.tmp rfl) .nil), Emb.nil _, by rw [Nat.mod_eq_of_lt (by omega), hke]; rfl, rfl⟩)
      · rw [decide_eq_false h2]
        refine Fn_of (args := [W l, W m, .bool false]) Tryd.func49 rfl Tryd.ntmps49 Tryd.results49 (by simp) ?_
        refine T_seq ?_
        refine T_region ?_
        refine S_boxA rfl rfl rfl fun _ => ?_
        refine S_boxA rfl rfl rfl fun _ => ?_
        refine S_allocA (zer rfl) rfl rfl fun _ => ?_
        refine S_val rfl rfl (Y_assign rfl) ?_
        refine S_nil ?_
        refine X_seq ?_
        refine T_seq ?_
        refine T_region ?_
        refine S_val rfl rfl (Y_loadAI 0 (und rfl) rfl rfl rfl (siz rfl) (dl_length _ _ _)) ?_
        refine S_callV rfl rfl (bod rfl) (fun w hs => hbt _) rfl rfl ?_
        refine S_val rfl rfl (Y_assign rfl) ?_
        refine S_nil ?_
        refine X_seq ?_
        refine T_seq ?_
        refine T_region ?_
        refine S_val rfl rfl (Y_loadAI 0 (und rfl) rfl rfl rfl (siz rfl) (dl_length _ _ _)) ?_
        refine S_callV rfl rfl (bod rfl) (fun w hs => s1 _) rfl rfl ?_
        refine S_storeAI 0 (siz rfl) rfl rfl rfl (dl_length _ _ _) (dl_length _ _ _) rfl ?_
        refine S_nil ?_
        refine X_seq ?_
        refine T_seq ?_
        refine T_seq ?_
        refine T_region ?_
        refine S_val rfl rfl (Y_move rfl) ?_
        refine S_nil ?_
        refine X_seq ?_
        refine T_cond_false rfl ?_
        refine T_skip ?_
        refine X_seq ?_
        refine T_seq ?_
        refine T_seq ?_
        refine T_region ?_
        refine S_val rfl rfl (Y_move rfl) ?_
        refine S_val rfl rfl (Y_move rfl) ?_
        refine S_val rfl rfl (Y_loadAI 0 (und rfl) rfl rfl rfl (siz rfl) (dl_length _ _ _)) ?_
        refine S_val rfl rfl (Y_loadAI 1 (und rfl) rfl rfl rfl (siz rfl) (dl_length _ _ _)) ?_
        rw [hk0 (by omega)]
        refine S_callV rfl rfl (bod rfl) (fun w hs => hc _) rfl rfl ?_
        refine S_val rfl rfl (Y_geq_f rfl rfl (by assumption)) ?_
        refine S_val rfl rfl (Y_pick_f rfl rfl) ?_
        refine S_nil ?_
        refine X_seq ?_
        refine T_cond_false rfl ?_
        refine T_skip ?_
        refine X_seq ?_
        refine T_seq ?_
        refine T_region ?_
        refine S_val rfl rfl (Y_loadAI 0 (und rfl) rfl rfl rfl (siz rfl) (dl_length _ _ _)) ?_
        refine S_storeAI 2 (siz rfl) rfl rfl rfl rfl (dl_length _ _ _) rfl ?_
        refine S_val rfl rfl (Y_assign rfl) ?_
        refine S_nil ?_
        refine X_seq ?_
        refine T_ret ?_
        ((first | refine X_fin_ret ?_ | refine X_fin ?_); exact ⟨[_, _], [], .cons (.agg 2 rfl (und rfl) rfl rfl (siz rfl)) (.cons (.tmp rfl) .nil), Emb.nil _, by rw [Nat.mod_eq_of_lt (by omega), hke]; rfl, rfl⟩)

theorem div_stepB {b x y i r : Nat} (hy : 0 < y) (hr : r = x / b ^ (i + 1) % y) : x / b ^ i / y = x / b ^ (i + 1) / y * b + (r * b + x / b ^ i % b) / y ∧ x / b ^ i % y = (r * b + x / b ^ i % b) % y := by
  have e : x / b ^ i = (r * b + x / b ^ i % b) + (x / b ^ (i + 1) / y * b) * y := by
    have h1 : x / b ^ (i + 1) = x / b ^ i / b := by rw [Nat.pow_succ, Nat.div_div_eq_div_mul]
    have h2 := Nat.div_add_mod (x / b ^ (i + 1)) y
    rw [← hr, h1] at h2
    rw [h1]
    have h4 := Nat.div_add_mod (x / b ^ i) b
    have h3 : x / b ^ i / b / y * b * y = b * (y * (x / b ^ i / b / y)) := by rw [Nat.mul_right_comm, Nat.mul_comm (x / b ^ i / b / y) y, Nat.mul_comm b]
    have h5 : b * (y * (x / b ^ i / b / y) + r) = b * (x / b ^ i / b) := by rw [h2]
    rw [Nat.mul_add] at h5
    rw [h3, Nat.mul_comm r]
    omega
  constructor
  · conv => lhs; rw [e]
    rw [Nat.add_mul_div_right _ _ hy, Nat.add_comm]
  · conv => lhs; rw [e]
    rw [Nat.add_mul_mod_self_right]
theorem short_any (x y : Nat) (hx : x < 2 ^ 256) (hy0 : 0 < y) (hy : y < 18446744073709551616) (w : World) :
    Fn Tryd.prog 48 #[W x, .int .u64 y] w fun v N => v = .tuple #[W (x / y), W (x % y)] ∧ N = [] := by
  refine Fn_of (args := [W x, .int .u64 y]) Tryd.func48 rfl Tryd.ntmps48 Tryd.results48 (by simp) ?_
  refine T_seq ?_
  refine T_region ?_
  refine S_boxA rfl rfl rfl fun _ => ?_
  refine S_allocA (zer rfl) rfl rfl fun _ => ?_
  refine S_allocA (zer rfl) rfl rfl fun _ => ?_
  refine S_nil ?_
  refine X_seq ?_
  refine T_seq ?_
  refine T_region ?_
  refine S_allocA (zer rfl) rfl rfl fun _ => ?_
  refine S_nil ?_
  refine X_seq ?_
  refine T_seq ?_
  refine T_region ?_
  refine S_val rfl rfl (Y_assign rfl) ?_
  refine S_nil ?_
  refine X_seq ?_
  refine T_seq ?_
  refine T_seq ?_
  refine T_region ?_
  refine S_val rfl rfl (Y_assign rfl) ?_
  refine S_nil ?_
  refine X_seq ?_
  refine T_block ?_
  rename_i b0 b1 b2 b3
  have hx4 : x < 18446744073709551616 ^ 4 := hx
  refine T_loop (α := Nat) (fun j => j ≤ 4)
    (fun j => [(1, .int .u64 y), (2, .pointer (some ⟨b0, 0, none⟩)), (4, .pointer (some ⟨b1, 0, none⟩)), (5, .pointer (some ⟨b2, 0, none⟩)), (6, .pointer (some ⟨b3, 0, none⟩)), (7, .int .u64 ((x / 18446744073709551616 ^ j % y : Nat) : Int)), (8, .int .i64 ((j : Int) - 1))])
    (fun j => [blk b0 (.cells (ints .u64 (dl 18446744073709551616 4 (x))) 47 (0, 0)), blk b1 (.cells (ints .u64 (List.replicate 4 0)) 47 (0, 0)), blk b2 (.cells (ints .u64 (List.replicate 4 0)) 47 (0, 0)), blk b3 (.cells (ints .u64 (dl 18446744073709551616 4 (x / 18446744073709551616 ^ j / y * 18446744073709551616 ^ j))) 47 (0, 0))])
    (fun j => j) 4 (Nat.le_refl _) (by rw [Nat.div_eq_of_lt hx4, Nat.zero_mod]; exact (by repeat (first | exact Env.sub_nil _ | (apply Env.sub_cons; rfl)))) [] (by rw [Nat.div_eq_of_lt hx4, Nat.zero_div, Nat.zero_mul]; rfl) ?_
  intro j hj
  by_cases h : j = 0
  · subst h
    have hr : x / 18446744073709551616 ^ 0 % y < 18446744073709551616 := Nat.lt_trans (Nat.mod_lt _ hy0) hy
    refine T_seq ?_
    refine T_seq ?_
    refine T_region ?_
    refine S_val rfl rfl (Y_move rfl) ?_
    refine S_val rfl rfl (Y_geq_f rfl rfl (by decide)) ?_
    refine S_nil ?_
    refine X_seq ?_
    refine T_cond_false rfl ?_
    refine T_exit ?_
    refine X_seq_exit ?_
    refine X_loop_exit ?_
    refine X_blk_hit rfl ?_
    refine X_seq ?_
    refine T_seq ?_
    refine T_drawL (.succ (.succ (.succ .zero))) [.fx (blk b1 (.cells (ints .u64 (List.replicate 4 0)) 47 (0, 0))), .fx (blk b2 (.cells (ints .u64 (List.replicate 4 0)) 47 (0, 0)))] [blk b0 (.cells (ints .u64 (dl 18446744073709551616 4 (x))) 47 (0, 0)), blk b3 (.cells (ints .u64 (dl 18446744073709551616 4 (x / 18446744073709551616 ^ 0 / y * 18446744073709551616 ^ 0))) 47 (0, 0))] rfl (by kernel_rfl) (Emb.idx [0, 3, 1, 2] rfl rfl) rfl (by kernel_rfl) ?_
    refine D0_valM rfl rfl rfl (Y_loadAI 1 (und rfl) rfl rfl rfl (siz rfl) (dl_length _ _ _)) ?_
    refine D0_val rfl rfl rfl (Y_move rfl) ?_
    refine D0_callV rfl rfl (bod rfl) (fun w hs => of_any _ hr _) rfl rfl ?_
    refine D0_nilL ?_
    refine DL_storeAI rfl (fun _ => rfl) rfl (siz rfl) (fun _ => rfl) (fun _ => rfl) rfl (dl_length _ _ _) ?_
    refine DL_storeAI rfl (fun _ => rfl) rfl (siz rfl) (fun _ => rfl) (fun _ => rfl) rfl (dl_length _ _ _) ?_
    refine DL_nil fun _ => ?_
    refine X_seq ?_
    refine T_ret ?_
    ((first | refine X_fin_ret ?_ | refine X_fin ?_); exact ⟨[_, _], [], .cons (.agg 2 rfl (und rfl) rfl rfl (siz rfl)) (.cons (.agg 3 rfl (und rfl) rfl rfl (siz rfl)) .nil), Emb.nil _, by rw [Nat.pow_zero, Nat.div_one, Nat.mul_one]; rfl, rfl⟩)
  · obtain ⟨i, rfl⟩ : ∃ i, j = i + 1 := ⟨j - 1, by omega⟩
    rw [show (((i + 1 : Nat) : Int) - 1) = (i : Int) by omega]
    have hd := digit_lt x i
    obtain ⟨r, hr⟩ : ∃ r, r = x / 18446744073709551616 ^ (i + 1) % y := ⟨_, rfl⟩
    have hry : r < y := by rw [hr]; exact Nat.mod_lt _ hy0
    obtain ⟨hq, hm⟩ := div_stepB hy0 hr
    rw [← hr]
    generalize x / 18446744073709551616 ^ (i + 1) / y = Q at *
    have hqd : (r * 18446744073709551616 + x / 18446744073709551616 ^ i % 18446744073709551616) / y < 18446744073709551616 := by
      refine Nat.div_lt_of_lt_mul ?_
      have : (r + 1) * 18446744073709551616 ≤ y * 18446744073709551616 := Nat.mul_le_mul_right _ hry
      omega
    refine T_seq ?_
    refine T_seq ?_
    refine T_region ?_
    refine S_val rfl rfl (Y_move rfl) ?_
    refine S_val rfl rfl (Y_geq_t rfl rfl (by omega)) ?_
    refine S_nil ?_
    refine X_seq ?_
    refine T_cond_true rfl ?_
    refine T_skip ?_
    refine X_seq ?_
    refine T_seq ?_
    refine T_block ?_
    refine T_region ?_
    refine S_val rfl rfl (Y_move rfl) ?_
    refine S_val rfl rfl (Y_move rfl) ?_
    refine S_val rfl rfl (Y_move rfl) ?_
    refine S_val rfl rfl (Y_ixa (und rfl) (siz rfl) rfl rfl (nat_cast _) (by assumption)) ?_
    refine S_val rfl rfl (Y_loadI 0 (und rfl) rfl rfl rfl (dl_get (by assumption))) ?_
    refine S_val rfl rfl (Y_move rfl) ?_
    refine S_callV rfl rfl (bod rfl) (fun w hs => div64_any r (x / 18446744073709551616 ^ i % 18446744073709551616) y hy hd hry _) rfl rfl ?_
    refine S_val rfl rfl (Y_move rfl) ?_
    refine S_val rfl rfl (Y_extract rfl rfl) ?_
    refine S_val rfl rfl (Y_extract rfl rfl) ?_
    refine S_val rfl rfl (Y_ixa (und rfl) (siz rfl) rfl rfl (nat_cast _) (by assumption)) ?_
    refine S_storeI 3 (siz rfl) rfl rfl rfl (by simp; omega) rfl rfl ?_
    refine S_val rfl rfl (Y_assign rfl) ?_
    refine S_nil ?_
    refine X_blk ?_
    refine X_seq ?_
    refine T_region ?_
    refine S_val rfl rfl (Y_move rfl) ?_
    refine S_val rfl rfl (Y_sub rfl rfl (wi64 (by omega) (by omega))) ?_
    refine S_val rfl rfl (Y_assign rfl) ?_
    refine S_nil ?_
    refine X_loop ?_
    refine ⟨i, by omega, by omega, by rw [hm]; exact (by repeat (first | exact Env.sub_nil _ | (apply Env.sub_cons; rfl))), [], ?_⟩
    have hz : Q * 18446744073709551616 ^ (i + 1) / 18446744073709551616 ^ i % 18446744073709551616 = 0 := by
      rw [Nat.pow_succ, Nat.mul_comm (18446744073709551616 ^ i), ← Nat.mul_assoc, Nat.mul_div_cancel _ (Nat.pow_pos (by omega)), Nat.mul_mod_left]
    rw [dl_put (by omega) hqd, hz, Nat.zero_mul, Nat.sub_zero, hq, Nat.add_mul, Nat.mul_assoc Q, Nat.mul_comm 18446744073709551616 (18446744073709551616 ^ i), ← Nat.pow_succ]
    rfl
end Go.Proofs.YtchoncjikdfbgaaDoor
