import Derived.Test.YtepmghjiemggpaaSign3
/- The law SignLess hands back true. -/
namespace Go.Proofs.Ytepmghjiemggpaa
open Go.RowKit
set_option maxRecDepth 20000
set_option maxHeartbeats 4000000

theorem cmpI_lt (x y : Nat) : decide (cmpI x y < 0) = decide (x < y) := by
  unfold cmpI
  refine decide_eq_decide.2 ?_
  by_cases h1 : x < y
  · rw [if_pos h1]; constructor <;> intro <;> omega
  · rw [if_neg h1]
    split <;> constructor <;> intro <;> omega
theorem rless3_any (a b : Nat) (w : World) : Fn Try.prog 50 #[W a, W b] w fun v N => v = .bool (slt a b) ∧ N = [] := by
  obtain ⟨h, eh⟩ : ∃ h, 2 ^ 255 = h := ⟨_, rfl⟩
  have oh : ∀ w, Fn Try.prog 15 #[.agg (ints .u64 (fillI (List.replicate 4 0) [(0, 0), (1, 0), (2, 0), (3, 9223372036854775808)]))] w fun v N => v = D h ∧ N = [] := fun w => by
    have := rof_any h w
    unfold W at this
    rwa [show dl 18446744073709551616 4 h = fillI (List.replicate 4 0) [(0, 0), (1, 0), (2, 0), (3, 9223372036854775808)] by rw [← eh]; decide +kernel] at this
  have ra := radd_any a h
  have rb := radd_any b h
  have cm := rcompare_any ((a + h) % 2 ^ 256) ((b + h) % 2 ^ 256) (Nat.mod_lt _ (by omega)) (Nat.mod_lt _ (by omega))
  have e := cmpI_lt ((a + h) % 2 ^ 256) ((b + h) % 2 ^ 256)
  unfold slt
  rw [eh, ← e]
  clear e eh
  generalize (a + h) % 2 ^ 256 = x at *
  generalize (b + h) % 2 ^ 256 = y at *
  generalize cmpI x y = c at *
  refine Fn_of (args := [W a, W b]) Try.func50 rfl Try.ntmps50 Try.results50 (by simp) ?_
  refine T_seq ?_
  refine T_region ?_
  refine S_boxA rfl rfl rfl fun _ => ?_
  refine S_boxA rfl rfl rfl fun _ => ?_
  refine S_val rfl rfl (Y_assign rfl) ?_
  refine S_nil ?_
  refine X_seq ?_
  refine T_seq ?_
  refine T_region ?_
  refine S_val rfl rfl (Y_build (und rfl) (siz rfl) (zer rfl) rfl rfl) ?_
  refine S_callV rfl rfl (bod rfl) (fun w hs => oh _) rfl rfl ?_
  refine S_allocA (zer rfl) rfl rfl fun _ => ?_
  refine S_storeAI 2 (siz rfl) rfl rfl rfl rfl (dl_length _ _ _) rfl ?_
  refine S_nil ?_
  refine X_seq ?_
  refine T_seq ?_
  refine T_draw (by kernel_rfl) (by kernel_rfl) rfl ?_
  refine D0_valM rfl rfl rfl (Y_loadAI 0 (und rfl) rfl rfl rfl (siz rfl) (dl_length _ _ _)) ?_
  refine D0_callV rfl rfl (bod rfl) (fun w hs => rof_any a _) rfl rfl ?_
  refine D0_valM rfl rfl rfl (Y_loadAI 2 (und rfl) rfl rfl rfl (siz rfl) (dl_length _ _ _)) ?_
  refine D0_callV rfl rfl (bod rfl) (fun w hs => ra _) rfl rfl ?_
  refine D0_valM rfl rfl rfl (Y_loadAI 1 (und rfl) rfl rfl rfl (siz rfl) (dl_length _ _ _)) ?_
  refine D0_callV rfl rfl (bod rfl) (fun w hs => rof_any b _) rfl rfl ?_
  refine D0_valM rfl rfl rfl (Y_loadAI 2 (und rfl) rfl rfl rfl (siz rfl) (dl_length _ _ _)) ?_
  refine D0_callV rfl rfl (bod rfl) (fun w hs => rb _) rfl rfl ?_
  skip
  refine D0_callV rfl rfl (bod rfl) (fun w hs => cm _) rfl rfl ?_
  refine D0_val rfl rfl rfl (Y_lss rfl rfl) ?_
  refine D0_val rfl rfl rfl (Y_assign rfl) ?_
  refine D0_nil ?_
  refine X_seq ?_
  refine T_ret ?_
  ((first | refine X_fin_ret ?_ | refine X_fin ?_); exact ⟨[_], [], .cons (.tmp rfl) .nil, Emb.nil _, rfl, rfl⟩)
theorem signLess_law (a : Nat) (ha : a < 2 ^ 256) (b : Nat) (hb : b < 2 ^ 256) (w : World) : Fn Try.prog 10 #[W a, W b] w fun v N => v = .bool true ∧ N = [] := by
  have l1 := sless_any a b ha hb
  have l2 := sless_any b a hb ha
  have r1 := rless3_any a b
  have r2 := rless3_any b a
  by_cases e : a = b
  · subst e
    have e0 : slt a a = false := decide_eq_false (Nat.lt_irrefl _)
    rw [e0] at l1 l2 r1 r2
    refine Fn_of (args := [W a, W a]) Try.func10 rfl Try.ntmps10 Try.results10 (by simp) ?_
    refine T_seq ?_
    refine T_region ?_
    refine S_boxA rfl rfl rfl fun _ => ?_
    refine S_boxA rfl rfl rfl fun _ => ?_
    refine S_val rfl rfl (Y_assign rfl) ?_
    refine S_nil ?_
    refine X_seq ?_
    refine T_seq ?_
    refine T_draw (by kernel_rfl) (by kernel_rfl) rfl ?_
    refine D0_valM rfl rfl rfl (Y_loadAI 0 (und rfl) rfl rfl rfl (siz rfl) (dl_length _ _ _)) ?_
    refine D0_valM rfl rfl rfl (Y_loadAI 1 (und rfl) rfl rfl rfl (siz rfl) (dl_length _ _ _)) ?_
    refine D0_callV rfl rfl (bod rfl) (fun w hs => l1 _) rfl rfl ?_
    refine D0_valM rfl rfl rfl (Y_loadAI 1 (und rfl) rfl rfl rfl (siz rfl) (dl_length _ _ _)) ?_
    refine D0_valM rfl rfl rfl (Y_loadAI 0 (und rfl) rfl rfl rfl (siz rfl) (dl_length _ _ _)) ?_
    refine D0_callV rfl rfl (bod rfl) (fun w hs => l2 _) rfl rfl ?_
    refine D0_val rfl rfl rfl (Y_assign rfl) ?_
    refine D0_val rfl rfl rfl (Y_assign rfl) ?_
    refine D0_nil ?_
    refine X_seq ?_
    refine T_seq ?_
    refine T_region ?_
    refine S_callV rfl rfl (bod rfl) (fun w hs => sfixed_any _) rfl rfl ?_
    refine S_val rfl rfl (Y_move rfl) ?_
    refine S_val rfl rfl (Y_move rfl) ?_
    refine S_val rfl rfl (Y_loadAI 0 (und rfl) rfl rfl rfl (siz rfl) (dl_length _ _ _)) ?_
    refine S_val rfl rfl (Y_loadAI 1 (und rfl) rfl rfl rfl (siz rfl) (dl_length _ _ _)) ?_
    refine S_callV rfl rfl (bod rfl) (fun w hs => r1 _) rfl rfl ?_
    refine S_val rfl rfl (Y_eqlB_t (und rfl) rfl rfl) ?_
    refine S_val rfl rfl (Y_pick_t rfl rfl) ?_
    refine S_val rfl rfl (Y_move rfl) ?_
    refine S_val rfl rfl (Y_move rfl) ?_
    refine S_val rfl rfl (Y_loadAI 1 (und rfl) rfl rfl rfl (siz rfl) (dl_length _ _ _)) ?_
    refine S_val rfl rfl (Y_loadAI 0 (und rfl) rfl rfl rfl (siz rfl) (dl_length _ _ _)) ?_
    refine S_callV rfl rfl (bod rfl) (fun w hs => r2 _) rfl rfl ?_
    refine S_val rfl rfl (Y_eqlB_t (und rfl) rfl rfl) ?_
    refine S_val rfl rfl (Y_pick_t rfl rfl) ?_
    refine S_val rfl rfl (Y_move rfl) ?_
    refine S_val rfl rfl (Y_move rfl) ?_
    refine S_val rfl rfl (Y_move rfl) ?_
    refine S_skip rfl rfl ?_
    refine S_val rfl rfl (Y_pick_f rfl rfl) ?_
    refine S_val rfl rfl (Y_not rfl rfl) ?_
    refine S_val rfl rfl (Y_pick_t rfl rfl) ?_
    refine S_val rfl rfl (Y_move rfl) ?_
    refine S_val rfl rfl (Y_move rfl) ?_
    refine S_val rfl rfl (Y_move rfl) ?_
    refine S_val rfl rfl (Y_move rfl) ?_
    refine S_val rfl rfl (Y_pick_f rfl rfl) ?_
    refine S_val rfl rfl (Y_loadAI 0 (und rfl) rfl rfl rfl (siz rfl) (dl_length _ _ _)) ?_
    refine S_val rfl rfl (Y_loadAI 1 (und rfl) rfl rfl rfl (siz rfl) (dl_length _ _ _)) ?_
    refine S_val rfl rfl (Y_neqA_f (eqg rfl) (und rfl) (und rfl) (siz rfl) rfl rfl (dl_length _ _ _) rfl) ?_
    refine S_val rfl rfl (Y_eqlB_t (und rfl) rfl rfl) ?_
    refine S_val rfl rfl (Y_pick_t rfl rfl) ?_
    refine S_val rfl rfl (Y_assign rfl) ?_
    refine S_nil ?_
    refine X_seq ?_
    refine T_ret ?_
    ((first | refine X_fin_ret ?_ | refine X_fin ?_); exact ⟨[_], [], .cons (.tmp rfl) .nil, Emb.nil _, rfl, rfl⟩)
  · have hne : ¬ dl 18446744073709551616 4 a = dl 18446744073709551616 4 b := W_ne ha hb e
    by_cases h : slt a b = true
    · have h' : slt b a = false := decide_eq_false (by have := of_decide_eq_true h; omega)
      rw [h] at l1 r1
      rw [h'] at l2 r2
      clear h h' ha hb
      refine Fn_of (args := [W a, W b]) Try.func10 rfl Try.ntmps10 Try.results10 (by simp) ?_
      refine T_seq ?_
      refine T_region ?_
      refine S_boxA rfl rfl rfl fun _ => ?_
      refine S_boxA rfl rfl rfl fun _ => ?_
      refine S_val rfl rfl (Y_assign rfl) ?_
      refine S_nil ?_
      refine X_seq ?_
      refine T_seq ?_
      refine T_draw (by kernel_rfl) (by kernel_rfl) rfl ?_
      refine D0_valM rfl rfl rfl (Y_loadAI 0 (und rfl) rfl rfl rfl (siz rfl) (dl_length _ _ _)) ?_
      refine D0_valM rfl rfl rfl (Y_loadAI 1 (und rfl) rfl rfl rfl (siz rfl) (dl_length _ _ _)) ?_
      refine D0_callV rfl rfl (bod rfl) (fun w hs => l1 _) rfl rfl ?_
      refine D0_valM rfl rfl rfl (Y_loadAI 1 (und rfl) rfl rfl rfl (siz rfl) (dl_length _ _ _)) ?_
      refine D0_valM rfl rfl rfl (Y_loadAI 0 (und rfl) rfl rfl rfl (siz rfl) (dl_length _ _ _)) ?_
      refine D0_callV rfl rfl (bod rfl) (fun w hs => l2 _) rfl rfl ?_
      refine D0_val rfl rfl rfl (Y_assign rfl) ?_
      refine D0_val rfl rfl rfl (Y_assign rfl) ?_
      refine D0_nil ?_
      refine X_seq ?_
      refine T_seq ?_
      refine T_region ?_
      refine S_callV rfl rfl (bod rfl) (fun w hs => sfixed_any _) rfl rfl ?_
      refine S_val rfl rfl (Y_move rfl) ?_
      refine S_val rfl rfl (Y_move rfl) ?_
      refine S_val rfl rfl (Y_loadAI 0 (und rfl) rfl rfl rfl (siz rfl) (dl_length _ _ _)) ?_
      refine S_val rfl rfl (Y_loadAI 1 (und rfl) rfl rfl rfl (siz rfl) (dl_length _ _ _)) ?_
      refine S_callV rfl rfl (bod rfl) (fun w hs => r1 _) rfl rfl ?_
      refine S_val rfl rfl (Y_eqlB_t (und rfl) rfl rfl) ?_
      refine S_val rfl rfl (Y_pick_t rfl rfl) ?_
      refine S_val rfl rfl (Y_move rfl) ?_
      refine S_val rfl rfl (Y_move rfl) ?_
      refine S_val rfl rfl (Y_loadAI 1 (und rfl) rfl rfl rfl (siz rfl) (dl_length _ _ _)) ?_
      refine S_val rfl rfl (Y_loadAI 0 (und rfl) rfl rfl rfl (siz rfl) (dl_length _ _ _)) ?_
      refine S_callV rfl rfl (bod rfl) (fun w hs => r2 _) rfl rfl ?_
      refine S_val rfl rfl (Y_eqlB_t (und rfl) rfl rfl) ?_
      refine S_val rfl rfl (Y_pick_t rfl rfl) ?_
      refine S_val rfl rfl (Y_move rfl) ?_
      refine S_val rfl rfl (Y_move rfl) ?_
      refine S_val rfl rfl (Y_move rfl) ?_
      refine S_val rfl rfl (Y_move rfl) ?_
      refine S_val rfl rfl (Y_pick_t rfl rfl) ?_
      refine S_val rfl rfl (Y_not rfl rfl) ?_
      refine S_val rfl rfl (Y_pick_t rfl rfl) ?_
      refine S_val rfl rfl (Y_move rfl) ?_
      refine S_val rfl rfl (Y_move rfl) ?_
      refine S_val rfl rfl (Y_move rfl) ?_
      refine S_skip rfl rfl ?_
      refine S_val rfl rfl (Y_pick_t rfl rfl) ?_
      refine S_val rfl rfl (Y_loadAI 0 (und rfl) rfl rfl rfl (siz rfl) (dl_length _ _ _)) ?_
      refine S_val rfl rfl (Y_loadAI 1 (und rfl) rfl rfl rfl (siz rfl) (dl_length _ _ _)) ?_
      refine S_val rfl rfl (Y_neqA_t (eqg rfl) (und rfl) (und rfl) (siz rfl) rfl rfl (dl_length _ _ _) (dl_length _ _ _) (by assumption)) ?_
      refine S_val rfl rfl (Y_eqlB_t (und rfl) rfl rfl) ?_
      refine S_val rfl rfl (Y_pick_t rfl rfl) ?_
      refine S_val rfl rfl (Y_assign rfl) ?_
      refine S_nil ?_
      refine X_seq ?_
      refine T_ret ?_
      ((first | refine X_fin_ret ?_ | refine X_fin ?_); exact ⟨[_], [], .cons (.tmp rfl) .nil, Emb.nil _, rfl, rfl⟩)
    · have h' : slt b a = true := decide_eq_true (by have := of_decide_eq_false (Bool.eq_false_iff.2 h); omega)
      rw [Bool.eq_false_iff.2 h] at l1 r1
      rw [h'] at l2 r2
      clear h h' ha hb
      refine Fn_of (args := [W a, W b]) Try.func10 rfl Try.ntmps10 Try.results10 (by simp) ?_
      refine T_seq ?_
      refine T_region ?_
      refine S_boxA rfl rfl rfl fun _ => ?_
      refine S_boxA rfl rfl rfl fun _ => ?_
      refine S_val rfl rfl (Y_assign rfl) ?_
      refine S_nil ?_
      refine X_seq ?_
      refine T_seq ?_
      refine T_draw (by kernel_rfl) (by kernel_rfl) rfl ?_
      refine D0_valM rfl rfl rfl (Y_loadAI 0 (und rfl) rfl rfl rfl (siz rfl) (dl_length _ _ _)) ?_
      refine D0_valM rfl rfl rfl (Y_loadAI 1 (und rfl) rfl rfl rfl (siz rfl) (dl_length _ _ _)) ?_
      refine D0_callV rfl rfl (bod rfl) (fun w hs => l1 _) rfl rfl ?_
      refine D0_valM rfl rfl rfl (Y_loadAI 1 (und rfl) rfl rfl rfl (siz rfl) (dl_length _ _ _)) ?_
      refine D0_valM rfl rfl rfl (Y_loadAI 0 (und rfl) rfl rfl rfl (siz rfl) (dl_length _ _ _)) ?_
      refine D0_callV rfl rfl (bod rfl) (fun w hs => l2 _) rfl rfl ?_
      refine D0_val rfl rfl rfl (Y_assign rfl) ?_
      refine D0_val rfl rfl rfl (Y_assign rfl) ?_
      refine D0_nil ?_
      refine X_seq ?_
      refine T_seq ?_
      refine T_region ?_
      refine S_callV rfl rfl (bod rfl) (fun w hs => sfixed_any _) rfl rfl ?_
      refine S_val rfl rfl (Y_move rfl) ?_
      refine S_val rfl rfl (Y_move rfl) ?_
      refine S_val rfl rfl (Y_loadAI 0 (und rfl) rfl rfl rfl (siz rfl) (dl_length _ _ _)) ?_
      refine S_val rfl rfl (Y_loadAI 1 (und rfl) rfl rfl rfl (siz rfl) (dl_length _ _ _)) ?_
      refine S_callV rfl rfl (bod rfl) (fun w hs => r1 _) rfl rfl ?_
      refine S_val rfl rfl (Y_eqlB_t (und rfl) rfl rfl) ?_
      refine S_val rfl rfl (Y_pick_t rfl rfl) ?_
      refine S_val rfl rfl (Y_move rfl) ?_
      refine S_val rfl rfl (Y_move rfl) ?_
      refine S_val rfl rfl (Y_loadAI 1 (und rfl) rfl rfl rfl (siz rfl) (dl_length _ _ _)) ?_
      refine S_val rfl rfl (Y_loadAI 0 (und rfl) rfl rfl rfl (siz rfl) (dl_length _ _ _)) ?_
      refine S_callV rfl rfl (bod rfl) (fun w hs => r2 _) rfl rfl ?_
      refine S_val rfl rfl (Y_eqlB_t (und rfl) rfl rfl) ?_
      refine S_val rfl rfl (Y_pick_t rfl rfl) ?_
      refine S_val rfl rfl (Y_move rfl) ?_
      refine S_val rfl rfl (Y_move rfl) ?_
      refine S_val rfl rfl (Y_move rfl) ?_
      refine S_skip rfl rfl ?_
      refine S_val rfl rfl (Y_pick_f rfl rfl) ?_
      refine S_val rfl rfl (Y_not rfl rfl) ?_
      refine S_val rfl rfl (Y_pick_t rfl rfl) ?_
      refine S_val rfl rfl (Y_move rfl) ?_
      refine S_val rfl rfl (Y_move rfl) ?_
      refine S_val rfl rfl (Y_move rfl) ?_
      refine S_val rfl rfl (Y_move rfl) ?_
      refine S_val rfl rfl (Y_pick_f rfl rfl) ?_
      refine S_val rfl rfl (Y_loadAI 0 (und rfl) rfl rfl rfl (siz rfl) (dl_length _ _ _)) ?_
      refine S_val rfl rfl (Y_loadAI 1 (und rfl) rfl rfl rfl (siz rfl) (dl_length _ _ _)) ?_
      refine S_val rfl rfl (Y_neqA_t (eqg rfl) (und rfl) (und rfl) (siz rfl) rfl rfl (dl_length _ _ _) (dl_length _ _ _) (by assumption)) ?_
      refine S_val rfl rfl (Y_eqlB_t (und rfl) rfl rfl) ?_
      refine S_val rfl rfl (Y_pick_t rfl rfl) ?_
      refine S_val rfl rfl (Y_assign rfl) ?_
      refine S_nil ?_
      refine X_seq ?_
      refine T_ret ?_
      ((first | refine X_fin_ret ?_ | refine X_fin ?_); exact ⟨[_], [], .cons (.tmp rfl) .nil, Emb.nil _, rfl, rfl⟩)
end Go.Proofs.Ytepmghjiemggpaa
