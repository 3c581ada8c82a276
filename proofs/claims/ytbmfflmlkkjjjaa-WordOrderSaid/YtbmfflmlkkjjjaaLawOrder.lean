import Derived.Test.YtbmfflmlkkjjjaaLaw01
/- The law WordOrder hands back true. -/
namespace Go.Proofs.Ytbmfflmlkkjjjaa
open Go.RowKit
set_option maxRecDepth 10000
set_option maxHeartbeats 4000000

theorem cmpI_cases (x y : Nat) : (x < y ∧ cmpI x y = -1) ∨ (x = y ∧ cmpI x y = 0) ∨ (y < x ∧ cmpI x y = 1) := by
  unfold cmpI
  split
  · omega
  · split
    · omega
    · omega
theorem order_any (x : Nat) (hx : x < 2 ^ 256) (y : Nat) (hy : y < 2 ^ 256) (z : Nat) (hz : z < 2 ^ 256) (w : World) : Fn Try.prog 9 #[W x, W y, W z] w fun v N => v = .bool true ∧ N = [] := by
  have cab := compare_any x y hx hy
  have cbc := compare_any y z hy hz
  have cac := compare_any x z hx hz
  have cba := compare_any y x hy hx
  have hab := cmpI_cases x y
  have hbc := cmpI_cases y z
  have hac := cmpI_cases x z
  have hba := cmpI_cases y x
  generalize cmpI x y = a at *
  generalize cmpI y z = b at *
  generalize cmpI x z = c at *
  generalize cmpI y x = a' at *
  have hw : a ≠ 0 → ¬ dl 18446744073709551616 4 x = dl 18446744073709551616 4 y := fun h e => by
    have := dl_inj (by omega) (Nat.lt_of_lt_of_le hx (by decide)) (Nat.lt_of_lt_of_le hy (by decide)) e
    omega
  have hw0 : a = 0 → dl 18446744073709551616 4 x = dl 18446744073709551616 4 y := fun h => by
    rw [show x = y by omega]
  have hneg : a = 0 - a' := by omega
  have hr : -1 ≤ a' ∧ a' ≤ 1 := by omega
  have h1 : a ≤ 0 → b ≤ 0 → ¬ 0 < c := by omega
  have h2 : 0 ≤ a → 0 ≤ b → ¬ c < 0 := by omega
  obtain ⟨n, hn⟩ : ∃ n, n = (x + 1) % 2 ^ 256 := ⟨_, rfl⟩
  have hnl : n < 2 ^ 256 := by rw [hn]; exact Nat.mod_lt _ (by omega)
  have cn := compare_any x n hx hnl
  have hcn := cmpI_cases x n
  generalize cmpI x n = q at *
  have ad : ∀ w, Fn Try.prog 24 #[W x, W 1] w fun v N => v = W n ∧ N = [] := by rw [hn]; exact add_any x 1 hx (by omega)
  obtain ⟨o, ho⟩ : ∃ o, o = 2 ^ 256 - 1 - 0 := ⟨_, rfl⟩
  have nt : ∀ w, Fn Try.prog 23 #[W 0] w fun v N => v = W o ∧ N = [] := by rw [ho]; exact not_any 0 (by omega)
  have hfin : (dl 18446744073709551616 4 n = fillI (List.replicate 4 0) [] ∧ dl 18446744073709551616 4 x = dl 18446744073709551616 4 o) ∨
      (¬ dl 18446744073709551616 4 n = fillI (List.replicate 4 0) [] ∧ ¬ dl 18446744073709551616 4 x = dl 18446744073709551616 4 o ∧ q < 0) := by
    have e0 : dl 18446744073709551616 4 0 = fillI (List.replicate 4 0) [] := by decide +kernel
    rw [← e0]
    by_cases h : x = o
    · left
      have : n = 0 := by rw [hn, h, ho]
      exact ⟨by rw [this], by rw [h]⟩
    · right
      have hn' : n = x + 1 := by rw [hn]; exact Nat.mod_eq_of_lt (by omega)
      refine ⟨fun e => ?_, fun e => ?_, by omega⟩
      · have := dl_inj (by omega) (Nat.lt_of_lt_of_le hnl (by decide)) (by decide) e
        omega
      · exact h (dl_inj (by omega) (Nat.lt_of_lt_of_le hx (by decide)) (by rw [ho]; decide) e)
  have hs : (a < 0 ∧ a ≠ 0 ∧ b ≤ 0) ∨ (a < 0 ∧ a ≠ 0 ∧ 0 < b) ∨ (0 < a ∧ a ≠ 0 ∧ 0 ≤ b) ∨ (0 < a ∧ a ≠ 0 ∧ b < 0) ∨ (a = 0 ∧ b = 0) ∨ (a = 0 ∧ b < 0) ∨ (a = 0 ∧ 0 < b) := by omega
  clear hab hbc hac hba hcn hn ho hnl
  have key : (¬ dl 18446744073709551616 4 x = dl 18446744073709551616 4 y ∧ a ≠ 0) ∨ (dl 18446744073709551616 4 x = dl 18446744073709551616 4 y ∧ a = 0) := by
    by_cases h : a = 0
    · exact .inr ⟨hw0 h, h⟩
    · exact .inl ⟨hw h, h⟩
  clear hw hw0
  rcases hfin with ⟨f1, f2⟩ | ⟨f1, f2, f3⟩
  all_goals
    rcases key with ⟨k1, k2⟩ | ⟨k1, k2⟩
  all_goals
    rcases hs with s | s | s | s | s | s | s
  all_goals
    first
      | (exfalso; omega)
      | (refine Fn_of (args := [W x, W y, W z]) Try.func9 rfl Try.ntmps9 Try.results9 (by simp) ?_
         refine T_seq ?_
         refine T_region ?_
         refine S_boxA rfl rfl rfl fun _ => ?_
         refine S_boxA rfl rfl rfl fun _ => ?_
         refine S_boxA rfl rfl rfl fun _ => ?_
         refine S_val rfl rfl (Y_assign rfl) ?_
         refine S_nil ?_
         refine X_seq ?_
         refine T_seq ?_
         refine T_draw (by kernel_rfl) (by kernel_rfl) rfl ?_
         refine D0_valM rfl rfl rfl (Y_loadAI 0 (und rfl) rfl rfl rfl (siz rfl) (dl_length _ _ _)) ?_
         refine D0_valM rfl rfl rfl (Y_loadAI 1 (und rfl) rfl rfl rfl (siz rfl) (dl_length _ _ _)) ?_
         refine D0_callV rfl rfl (bod rfl) (fun w _ => cab _) rfl rfl ?_
         refine D0_valM rfl rfl rfl (Y_loadAI 1 (und rfl) rfl rfl rfl (siz rfl) (dl_length _ _ _)) ?_
         refine D0_valM rfl rfl rfl (Y_loadAI 2 (und rfl) rfl rfl rfl (siz rfl) (dl_length _ _ _)) ?_
         refine D0_callV rfl rfl (bod rfl) (fun w _ => cbc _) rfl rfl ?_
         refine D0_valM rfl rfl rfl (Y_loadAI 0 (und rfl) rfl rfl rfl (siz rfl) (dl_length _ _ _)) ?_
         refine D0_valM rfl rfl rfl (Y_loadAI 2 (und rfl) rfl rfl rfl (siz rfl) (dl_length _ _ _)) ?_
         refine D0_callV rfl rfl (bod rfl) (fun w _ => cac _) rfl rfl ?_
         refine D0_val rfl rfl rfl (Y_assign rfl) ?_
         refine D0_val rfl rfl rfl (Y_assign rfl) ?_
         refine D0_val rfl rfl rfl (Y_assign rfl) ?_
         refine D0_nil ?_
         refine X_seq ?_
         refine T_seq ?_
         refine T_seq ?_
         refine T_region ?_
         refine S_val rfl rfl (Y_move rfl) ?_
         refine S_val rfl rfl (Y_loadAI 1 (und rfl) rfl rfl rfl (siz rfl) (dl_length _ _ _)) ?_
         refine S_val rfl rfl (Y_loadAI 0 (und rfl) rfl rfl rfl (siz rfl) (dl_length _ _ _)) ?_
         refine S_callV rfl rfl (bod rfl) (fun w _ => cba _) rfl rfl ?_
         first | (refine S_val rfl rfl (Y_neg rfl (wi64 (by omega) (by omega))) ?_; refine S_val rfl rfl (Y_neq_f rfl rfl (by omega)) ?_; refine S_val rfl rfl (Y_move rfl) ?_; refine S_val rfl rfl (Y_move rfl) ?_; refine S_val rfl rfl (Y_eql_t rfl rfl (by assumption)) ?_; refine S_val rfl rfl (Y_loadAI 0 (und rfl) rfl rfl rfl (siz rfl) (dl_length _ _ _)) ?_; refine S_val rfl rfl (Y_loadAI 1 (und rfl) rfl rfl rfl (siz rfl) (dl_length _ _ _)) ?_; refine S_val rfl rfl (Y_eqlA_t (eqg rfl) (und rfl) (und rfl) (siz rfl) rfl rfl (dl_length _ _ _) (by assumption)) ?_; refine S_val rfl rfl (Y_neqB_f (und rfl) rfl rfl) ?_; refine S_val rfl rfl (Y_pick_f rfl rfl) ?_; refine S_val rfl rfl (Y_move rfl) ?_; refine S_val rfl rfl (Y_move rfl) ?_; refine S_val rfl rfl (Y_leq_t rfl rfl (by omega)) ?_; refine S_val rfl rfl (Y_move rfl) ?_; refine S_val rfl rfl (Y_move rfl) ?_; refine S_val rfl rfl (Y_leq_t rfl rfl (by omega)) ?_; refine S_val rfl rfl (Y_pick_t rfl rfl) ?_; refine S_val rfl rfl (Y_move rfl) ?_; refine S_val rfl rfl (Y_move rfl) ?_; refine S_val rfl rfl (Y_gtr_f rfl rfl (by omega)) ?_; refine S_val rfl rfl (Y_pick_t rfl rfl) ?_; refine S_val rfl rfl (Y_pick_f rfl rfl) ?_; refine S_val rfl rfl (Y_move rfl) ?_; refine S_val rfl rfl (Y_move rfl) ?_; refine S_val rfl rfl (Y_geq_t rfl rfl (by omega)) ?_; refine S_val rfl rfl (Y_move rfl) ?_; refine S_val rfl rfl (Y_move rfl) ?_; refine S_val rfl rfl (Y_geq_t rfl rfl (by omega)) ?_; refine S_val rfl rfl (Y_pick_t rfl rfl) ?_; refine S_val rfl rfl (Y_move rfl) ?_; refine S_val rfl rfl (Y_move rfl) ?_; refine S_val rfl rfl (Y_lss_f rfl rfl (by omega)) ?_; refine S_val rfl rfl (Y_pick_t rfl rfl) ?_; refine S_val rfl rfl (Y_pick_f rfl rfl) ?_; refine S_nil ?_; refine X_seq ?_; refine T_cond_false rfl ?_; refine T_skip ?_; refine X_seq ?_; refine T_seq ?_) | (refine S_val rfl rfl (Y_neg rfl (wi64 (by omega) (by omega))) ?_; refine S_val rfl rfl (Y_neq_f rfl rfl (by omega)) ?_; refine S_val rfl rfl (Y_move rfl) ?_; refine S_val rfl rfl (Y_move rfl) ?_; refine S_val rfl rfl (Y_eql_t rfl rfl (by assumption)) ?_; refine S_val rfl rfl (Y_loadAI 0 (und rfl) rfl rfl rfl (siz rfl) (dl_length _ _ _)) ?_; refine S_val rfl rfl (Y_loadAI 1 (und rfl) rfl rfl rfl (siz rfl) (dl_length _ _ _)) ?_; refine S_val rfl rfl (Y_eqlA_t (eqg rfl) (und rfl) (und rfl) (siz rfl) rfl rfl (dl_length _ _ _) (by assumption)) ?_; refine S_val rfl rfl (Y_neqB_f (und rfl) rfl rfl) ?_; refine S_val rfl rfl (Y_pick_f rfl rfl) ?_; refine S_val rfl rfl (Y_move rfl) ?_; refine S_val rfl rfl (Y_move rfl) ?_; refine S_val rfl rfl (Y_leq_t rfl rfl (by omega)) ?_; refine S_val rfl rfl (Y_move rfl) ?_; refine S_val rfl rfl (Y_move rfl) ?_; refine S_val rfl rfl (Y_leq_t rfl rfl (by omega)) ?_; refine S_val rfl rfl (Y_pick_t rfl rfl) ?_; refine S_val rfl rfl (Y_move rfl) ?_; refine S_val rfl rfl (Y_move rfl) ?_; refine S_val rfl rfl (Y_gtr_f rfl rfl (by omega)) ?_; refine S_val rfl rfl (Y_pick_t rfl rfl) ?_; refine S_val rfl rfl (Y_pick_f rfl rfl) ?_; refine S_val rfl rfl (Y_move rfl) ?_; refine S_val rfl rfl (Y_move rfl) ?_; refine S_val rfl rfl (Y_geq_t rfl rfl (by omega)) ?_; refine S_val rfl rfl (Y_move rfl) ?_; refine S_val rfl rfl (Y_move rfl) ?_; refine S_val rfl rfl (Y_geq_f rfl rfl (by omega)) ?_; refine S_val rfl rfl (Y_pick_t rfl rfl) ?_; refine S_val rfl rfl (Y_move rfl) ?_; refine S_skip rfl rfl ?_; refine S_skip rfl rfl ?_; refine S_val rfl rfl (Y_pick_f rfl rfl) ?_; refine S_val rfl rfl (Y_pick_f rfl rfl) ?_; refine S_nil ?_; refine X_seq ?_; refine T_cond_false rfl ?_; refine T_skip ?_; refine X_seq ?_; refine T_seq ?_) | (refine S_val rfl rfl (Y_neg rfl (wi64 (by omega) (by omega))) ?_; refine S_val rfl rfl (Y_neq_f rfl rfl (by omega)) ?_; refine S_val rfl rfl (Y_move rfl) ?_; refine S_val rfl rfl (Y_move rfl) ?_; refine S_val rfl rfl (Y_eql_t rfl rfl (by assumption)) ?_; refine S_val rfl rfl (Y_loadAI 0 (und rfl) rfl rfl rfl (siz rfl) (dl_length _ _ _)) ?_; refine S_val rfl rfl (Y_loadAI 1 (und rfl) rfl rfl rfl (siz rfl) (dl_length _ _ _)) ?_; refine S_val rfl rfl (Y_eqlA_t (eqg rfl) (und rfl) (und rfl) (siz rfl) rfl rfl (dl_length _ _ _) (by assumption)) ?_; refine S_val rfl rfl (Y_neqB_f (und rfl) rfl rfl) ?_; refine S_val rfl rfl (Y_pick_f rfl rfl) ?_; refine S_val rfl rfl (Y_move rfl) ?_; refine S_val rfl rfl (Y_move rfl) ?_; refine S_val rfl rfl (Y_leq_t rfl rfl (by omega)) ?_; refine S_val rfl rfl (Y_move rfl) ?_; refine S_val rfl rfl (Y_move rfl) ?_; refine S_val rfl rfl (Y_leq_f rfl rfl (by omega)) ?_; refine S_val rfl rfl (Y_pick_t rfl rfl) ?_; refine S_val rfl rfl (Y_move rfl) ?_; refine S_skip rfl rfl ?_; refine S_skip rfl rfl ?_; refine S_val rfl rfl (Y_pick_f rfl rfl) ?_; refine S_val rfl rfl (Y_pick_f rfl rfl) ?_; refine S_val rfl rfl (Y_move rfl) ?_; refine S_val rfl rfl (Y_move rfl) ?_; refine S_val rfl rfl (Y_geq_t rfl rfl (by omega)) ?_; refine S_val rfl rfl (Y_move rfl) ?_; refine S_val rfl rfl (Y_move rfl) ?_; refine S_val rfl rfl (Y_geq_t rfl rfl (by omega)) ?_; refine S_val rfl rfl (Y_pick_t rfl rfl) ?_; refine S_val rfl rfl (Y_move rfl) ?_; refine S_val rfl rfl (Y_move rfl) ?_; refine S_val rfl rfl (Y_lss_f rfl rfl (by omega)) ?_; refine S_val rfl rfl (Y_pick_t rfl rfl) ?_; refine S_val rfl rfl (Y_pick_f rfl rfl) ?_; refine S_nil ?_; refine X_seq ?_; refine T_cond_false rfl ?_; refine T_skip ?_; refine X_seq ?_; refine T_seq ?_) | (refine S_val rfl rfl (Y_neg rfl (wi64 (by omega) (by omega))) ?_; refine S_val rfl rfl (Y_neq_f rfl rfl (by omega)) ?_; refine S_val rfl rfl (Y_move rfl) ?_; refine S_val rfl rfl (Y_move rfl) ?_; refine S_val rfl rfl (Y_eql_f rfl rfl (by assumption)) ?_; refine S_val rfl rfl (Y_loadAI 0 (und rfl) rfl rfl rfl (siz rfl) (dl_length _ _ _)) ?_; refine S_val rfl rfl (Y_loadAI 1 (und rfl) rfl rfl rfl (siz rfl) (dl_length _ _ _)) ?_; refine S_val rfl rfl (Y_eqlA_f (eqg rfl) (und rfl) (und rfl) (siz rfl) rfl rfl (dl_length _ _ _) (dl_length _ _ _) (by assumption)) ?_; refine S_val rfl rfl (Y_neqB_f (und rfl) rfl rfl) ?_; refine S_val rfl rfl (Y_pick_f rfl rfl) ?_; refine S_val rfl rfl (Y_move rfl) ?_; refine S_val rfl rfl (Y_move rfl) ?_; refine S_val rfl rfl (Y_leq_t rfl rfl (by omega)) ?_; refine S_val rfl rfl (Y_move rfl) ?_; refine S_val rfl rfl (Y_move rfl) ?_; refine S_val rfl rfl (Y_leq_t rfl rfl (by omega)) ?_; refine S_val rfl rfl (Y_pick_t rfl rfl) ?_; refine S_val rfl rfl (Y_move rfl) ?_; refine S_val rfl rfl (Y_move rfl) ?_; refine S_val rfl rfl (Y_gtr_f rfl rfl (by omega)) ?_; refine S_val rfl rfl (Y_pick_t rfl rfl) ?_; refine S_val rfl rfl (Y_pick_f rfl rfl) ?_; refine S_val rfl rfl (Y_move rfl) ?_; refine S_val rfl rfl (Y_move rfl) ?_; refine S_val rfl rfl (Y_geq_f rfl rfl (by omega)) ?_; refine S_val rfl rfl (Y_move rfl) ?_; refine S_skip rfl rfl ?_; refine S_skip rfl rfl ?_; refine S_val rfl rfl (Y_pick_f rfl rfl) ?_; refine S_val rfl rfl (Y_move rfl) ?_; refine S_skip rfl rfl ?_; refine S_skip rfl rfl ?_; refine S_val rfl rfl (Y_pick_f rfl rfl) ?_; refine S_val rfl rfl (Y_pick_f rfl rfl) ?_; refine S_nil ?_; refine X_seq ?_; refine T_cond_false rfl ?_; refine T_skip ?_; refine X_seq ?_; refine T_seq ?_) | (refine S_val rfl rfl (Y_neg rfl (wi64 (by omega) (by omega))) ?_; refine S_val rfl rfl (Y_neq_f rfl rfl (by omega)) ?_; refine S_val rfl rfl (Y_move rfl) ?_; refine S_val rfl rfl (Y_move rfl) ?_; refine S_val rfl rfl (Y_eql_f rfl rfl (by assumption)) ?_; refine S_val rfl rfl (Y_loadAI 0 (und rfl) rfl rfl rfl (siz rfl) (dl_length _ _ _)) ?_; refine S_val rfl rfl (Y_loadAI 1 (und rfl) rfl rfl rfl (siz rfl) (dl_length _ _ _)) ?_; refine S_val rfl rfl (Y_eqlA_f (eqg rfl) (und rfl) (und rfl) (siz rfl) rfl rfl (dl_length _ _ _) (dl_length _ _ _) (by assumption)) ?_; refine S_val rfl rfl (Y_neqB_f (und rfl) rfl rfl) ?_; refine S_val rfl rfl (Y_pick_f rfl rfl) ?_; refine S_val rfl rfl (Y_move rfl) ?_; refine S_val rfl rfl (Y_move rfl) ?_; refine S_val rfl rfl (Y_leq_t rfl rfl (by omega)) ?_; refine S_val rfl rfl (Y_move rfl) ?_; refine S_val rfl rfl (Y_move rfl) ?_; refine S_val rfl rfl (Y_leq_f rfl rfl (by omega)) ?_; refine S_val rfl rfl (Y_pick_t rfl rfl) ?_; refine S_val rfl rfl (Y_move rfl) ?_; refine S_skip rfl rfl ?_; refine S_skip rfl rfl ?_; refine S_val rfl rfl (Y_pick_f rfl rfl) ?_; refine S_val rfl rfl (Y_pick_f rfl rfl) ?_; refine S_val rfl rfl (Y_move rfl) ?_; refine S_val rfl rfl (Y_move rfl) ?_; refine S_val rfl rfl (Y_geq_f rfl rfl (by omega)) ?_; refine S_val rfl rfl (Y_move rfl) ?_; refine S_skip rfl rfl ?_; refine S_skip rfl rfl ?_; refine S_val rfl rfl (Y_pick_f rfl rfl) ?_; refine S_val rfl rfl (Y_move rfl) ?_; refine S_skip rfl rfl ?_; refine S_skip rfl rfl ?_; refine S_val rfl rfl (Y_pick_f rfl rfl) ?_; refine S_val rfl rfl (Y_pick_f rfl rfl) ?_; refine S_nil ?_; refine X_seq ?_; refine T_cond_false rfl ?_; refine T_skip ?_; refine X_seq ?_; refine T_seq ?_) | (refine S_val rfl rfl (Y_neg rfl (wi64 (by omega) (by omega))) ?_; refine S_val rfl rfl (Y_neq_f rfl rfl (by omega)) ?_; refine S_val rfl rfl (Y_move rfl) ?_; refine S_val rfl rfl (Y_move rfl) ?_; refine S_val rfl rfl (Y_eql_f rfl rfl (by assumption)) ?_; refine S_val rfl rfl (Y_loadAI 0 (und rfl) rfl rfl rfl (siz rfl) (dl_length _ _ _)) ?_; refine S_val rfl rfl (Y_loadAI 1 (und rfl) rfl rfl rfl (siz rfl) (dl_length _ _ _)) ?_; refine S_val rfl rfl (Y_eqlA_f (eqg rfl) (und rfl) (und rfl) (siz rfl) rfl rfl (dl_length _ _ _) (dl_length _ _ _) (by assumption)) ?_; refine S_val rfl rfl (Y_neqB_f (und rfl) rfl rfl) ?_; refine S_val rfl rfl (Y_pick_f rfl rfl) ?_; refine S_val rfl rfl (Y_move rfl) ?_; refine S_val rfl rfl (Y_move rfl) ?_; refine S_val rfl rfl (Y_leq_f rfl rfl (by omega)) ?_; refine S_val rfl rfl (Y_move rfl) ?_; refine S_skip rfl rfl ?_; refine S_skip rfl rfl ?_; refine S_val rfl rfl (Y_pick_f rfl rfl) ?_; refine S_val rfl rfl (Y_move rfl) ?_; refine S_skip rfl rfl ?_; refine S_skip rfl rfl ?_; refine S_val rfl rfl (Y_pick_f rfl rfl) ?_; refine S_val rfl rfl (Y_pick_f rfl rfl) ?_; refine S_val rfl rfl (Y_move rfl) ?_; refine S_val rfl rfl (Y_move rfl) ?_; refine S_val rfl rfl (Y_geq_t rfl rfl (by omega)) ?_; refine S_val rfl rfl (Y_move rfl) ?_; refine S_val rfl rfl (Y_move rfl) ?_; refine S_val rfl rfl (Y_geq_t rfl rfl (by omega)) ?_; refine S_val rfl rfl (Y_pick_t rfl rfl) ?_; refine S_val rfl rfl (Y_move rfl) ?_; refine S_val rfl rfl (Y_move rfl) ?_; refine S_val rfl rfl (Y_lss_f rfl rfl (by omega)) ?_; refine S_val rfl rfl (Y_pick_t rfl rfl) ?_; refine S_val rfl rfl (Y_pick_f rfl rfl) ?_; refine S_nil ?_; refine X_seq ?_; refine T_cond_false rfl ?_; refine T_skip ?_; refine X_seq ?_; refine T_seq ?_) | (refine S_val rfl rfl (Y_neg rfl (wi64 (by omega) (by omega))) ?_; refine S_val rfl rfl (Y_neq_f rfl rfl (by omega)) ?_; refine S_val rfl rfl (Y_move rfl) ?_; refine S_val rfl rfl (Y_move rfl) ?_; refine S_val rfl rfl (Y_eql_f rfl rfl (by assumption)) ?_; refine S_val rfl rfl (Y_loadAI 0 (und rfl) rfl rfl rfl (siz rfl) (dl_length _ _ _)) ?_; refine S_val rfl rfl (Y_loadAI 1 (und rfl) rfl rfl rfl (siz rfl) (dl_length _ _ _)) ?_; refine S_val rfl rfl (Y_eqlA_f (eqg rfl) (und rfl) (und rfl) (siz rfl) rfl rfl (dl_length _ _ _) (dl_length _ _ _) (by assumption)) ?_; refine S_val rfl rfl (Y_neqB_f (und rfl) rfl rfl) ?_; refine S_val rfl rfl (Y_pick_f rfl rfl) ?_; refine S_val rfl rfl (Y_move rfl) ?_; refine S_val rfl rfl (Y_move rfl) ?_; refine S_val rfl rfl (Y_leq_f rfl rfl (by omega)) ?_; refine S_val rfl rfl (Y_move rfl) ?_; refine S_skip rfl rfl ?_; refine S_skip rfl rfl ?_; refine S_val rfl rfl (Y_pick_f rfl rfl) ?_; refine S_val rfl rfl (Y_move rfl) ?_; refine S_skip rfl rfl ?_; refine S_skip rfl rfl ?_; refine S_val rfl rfl (Y_pick_f rfl rfl) ?_; refine S_val rfl rfl (Y_pick_f rfl rfl) ?_; refine S_val rfl rfl (Y_move rfl) ?_; refine S_val rfl rfl (Y_move rfl) ?_; refine S_val rfl rfl (Y_geq_t rfl rfl (by omega)) ?_; refine S_val rfl rfl (Y_move rfl) ?_; refine S_val rfl rfl (Y_move rfl) ?_; refine S_val rfl rfl (Y_geq_f rfl rfl (by omega)) ?_; refine S_val rfl rfl (Y_pick_t rfl rfl) ?_; refine S_val rfl rfl (Y_move rfl) ?_; refine S_skip rfl rfl ?_; refine S_skip rfl rfl ?_; refine S_val rfl rfl (Y_pick_f rfl rfl) ?_; refine S_val rfl rfl (Y_pick_f rfl rfl) ?_; refine S_nil ?_; refine X_seq ?_; refine T_cond_false rfl ?_; refine T_skip ?_; refine X_seq ?_; refine T_seq ?_)
         refine T_drawP (.succ (.succ (.succ (.succ .zero)))) (by kernel_rfl) (by kernel_rfl) (by kernel_rfl) (by kernel_rfl) ?_
         refine D0_valM rfl rfl rfl (Y_loadAI 0 (und rfl) rfl rfl rfl (siz rfl) (dl_length _ _ _)) ?_
         refine D0_callV rfl rfl (bod rfl) (fun w _ => of_any 1 (by omega) _) rfl rfl ?_
         skip
         refine D0_callV rfl rfl (bod rfl) (fun w _ => ad _) rfl rfl ?_
         refine D0_new (D1_allocA (zer rfl) rfl fun _ => ?_)
         refine D1_nilS fun _ => ?_
         refine S_storeAI 3 (siz rfl) rfl rfl rfl rfl (dl_length _ _ _) rfl ?_
         refine S_nil ?_
         refine X_seq ?_
         refine T_seq ?_
         refine T_draw (by kernel_rfl) (by kernel_rfl) rfl ?_
         refine D0_callV rfl rfl (bod rfl) (fun w _ => fixed_any _) rfl rfl ?_
         first | (refine D0_val rfl rfl rfl (Y_move rfl) ?_; refine D0_valM rfl rfl rfl (Y_loadAI 3 (und rfl) rfl rfl rfl (siz rfl) (dl_length _ _ _)) ?_; refine D0_val rfl rfl rfl (Y_build (und rfl) (siz rfl) (zer rfl) rfl rfl) ?_; refine D0_val rfl rfl rfl (Y_eqlA_f (eqg rfl) (und rfl) (und rfl) (siz rfl) rfl rfl (dl_length _ _ _) rfl (by assumption)) ?_; refine D0_valM rfl rfl rfl (Y_loadAI 0 (und rfl) rfl rfl rfl (siz rfl) (dl_length _ _ _)) ?_; refine D0_val rfl rfl rfl (Y_build (und rfl) (siz rfl) (zer rfl) rfl rfl) ?_) | (refine D0_val rfl rfl rfl (Y_move rfl) ?_; refine D0_valM rfl rfl rfl (Y_loadAI 3 (und rfl) rfl rfl rfl (siz rfl) (dl_length _ _ _)) ?_; refine D0_val rfl rfl rfl (Y_build (und rfl) (siz rfl) (zer rfl) rfl rfl) ?_; refine D0_val rfl rfl rfl (Y_eqlA_t (eqg rfl) (und rfl) (und rfl) (siz rfl) rfl rfl (dl_length _ _ _) (by assumption)) ?_; refine D0_valM rfl rfl rfl (Y_loadAI 0 (und rfl) rfl rfl rfl (siz rfl) (dl_length _ _ _)) ?_; refine D0_val rfl rfl rfl (Y_build (und rfl) (siz rfl) (zer rfl) rfl rfl) ?_)
         refine D0_callV rfl rfl (bod rfl) (fun w _ => nt _) rfl rfl ?_
         first | (refine D0_val rfl rfl rfl (Y_eqlA_f (eqg rfl) (und rfl) (und rfl) (siz rfl) rfl rfl (dl_length _ _ _) (dl_length _ _ _) (by assumption)) ?_; refine D0_val rfl rfl rfl (Y_eqlB_t (und rfl) rfl rfl) ?_; refine D0_val rfl rfl rfl (Y_pick_t rfl rfl) ?_; refine D0_val rfl rfl rfl (Y_move rfl) ?_; refine D0_valM rfl rfl rfl (Y_loadAI 3 (und rfl) rfl rfl rfl (siz rfl) (dl_length _ _ _)) ?_; refine D0_val rfl rfl rfl (Y_build (und rfl) (siz rfl) (zer rfl) rfl rfl) ?_; refine D0_val rfl rfl rfl (Y_eqlA_f (eqg rfl) (und rfl) (und rfl) (siz rfl) rfl rfl (dl_length _ _ _) rfl (by assumption)) ?_; refine D0_val rfl rfl rfl (Y_move rfl) ?_; refine D0_valM rfl rfl rfl (Y_loadAI 0 (und rfl) rfl rfl rfl (siz rfl) (dl_length _ _ _)) ?_; refine D0_valM rfl rfl rfl (Y_loadAI 3 (und rfl) rfl rfl rfl (siz rfl) (dl_length _ _ _)) ?_) | (refine D0_val rfl rfl rfl (Y_eqlA_t (eqg rfl) (und rfl) (und rfl) (siz rfl) rfl rfl (dl_length _ _ _) (by assumption)) ?_; refine D0_val rfl rfl rfl (Y_eqlB_t (und rfl) rfl rfl) ?_; refine D0_val rfl rfl rfl (Y_pick_t rfl rfl) ?_; refine D0_val rfl rfl rfl (Y_move rfl) ?_; refine D0_valM rfl rfl rfl (Y_loadAI 3 (und rfl) rfl rfl rfl (siz rfl) (dl_length _ _ _)) ?_; refine D0_val rfl rfl rfl (Y_build (und rfl) (siz rfl) (zer rfl) rfl rfl) ?_; refine D0_val rfl rfl rfl (Y_eqlA_t (eqg rfl) (und rfl) (und rfl) (siz rfl) rfl rfl (dl_length _ _ _) (by assumption)) ?_; refine D0_val rfl rfl rfl (Y_move rfl) ?_; refine D0_skip rfl rfl ?_; refine D0_skip rfl rfl ?_; refine D0_skip rfl rfl ?_; refine D0_skip rfl rfl ?_; refine D0_val rfl rfl rfl (Y_pick_t rfl rfl) ?_; refine D0_val rfl rfl rfl (Y_pick_t rfl rfl) ?_; refine D0_val rfl rfl rfl (Y_assign rfl) ?_; refine D0_nil ?_; refine X_seq ?_; refine T_ret ?_)
         first
           | ((first | refine X_fin_ret ?_ | refine X_fin ?_); exact ⟨[_], [], .cons (.tmp rfl) .nil, List.nil_sublist _, rfl, rfl⟩)
           | (refine D0_callV rfl rfl (bod rfl) (fun w _ => cn _) rfl rfl ?_
              refine D0_val rfl rfl rfl (Y_lss_t rfl rfl (by assumption)) ?_
              refine D0_val rfl rfl rfl (Y_pick_f rfl rfl) ?_
              refine D0_val rfl rfl rfl (Y_pick_t rfl rfl) ?_
              refine D0_val rfl rfl rfl (Y_assign rfl) ?_
              refine D0_nil ?_
              refine X_seq ?_
              refine T_ret ?_
              ((first | refine X_fin_ret ?_ | refine X_fin ?_); exact ⟨[_], [], .cons (.tmp rfl) .nil, List.nil_sublist _, rfl, rfl⟩)))
end Go.Proofs.Ytbmfflmlkkjjjaa
