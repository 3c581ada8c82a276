import Derived.Test.YtchoncjikdfbgaaGreatSign3
/- The law SignLess hands back true. -/
namespace Go.Proofs.YtchoncjikdfbgaaGreat
open Go.RowKit
set_option maxRecDepth 20000
set_option maxHeartbeats 4000000

theorem cmpI_lt (x y : Nat) : decide (cmpI x y < 0) = decide (x < y) := by
  unfold cmpI
  refine decide_eq_decide.2 ?_
  by_cases h1 : x < y
  · rw [if_pos h1]; constructor <;> intro <;> omega
  · rw [if_neg h1]
    split <;> constructor <;> intro <;> omega
theorem rless3_any (a b : Nat) (w : World) : Fn Tryz.prog 18 #[W a, W b] w fun v N => v = .bool (slt a b) ∧ N = [] := by
  obtain ⟨h, eh⟩ : ∃ h, 2 ^ 255 = h := ⟨_, rfl⟩
  have oh : ∀ w, Fn Tryz.prog 14 #[.agg (ints .u64 (fillI (List.replicate 4 0) [(0, 0), (1, 0), (2, 0), (3, 9223372036854775808)]))] w fun v N => v = D h ∧ N = [] := fun w => by
    have := rof_any h w
    unfold W at this
    rwa [show dl 18446744073709551616 4 h = fillI (List.replicate 4 0) [(0, 0), (1, 0), (2, 0), (3, 9223372036854775808)] by rw [← eh]; decide +kernel] at this
  have ra := radd_any a h
  have rb := radd_any b h
  have cm := rcompare_any ((a + h) % 2 ^ 256) ((b + h) % 2 ^ 256) (Nat.mod_lt _ (by omega)) (Nat.mod_lt _ (by omega))
  have e := cmpI_lt ((a + h) % 2 ^ 256) ((b + h) % 2 ^ 256)
  unfold slt
  rw [eh, ← e]
  clear e eh
  generalize (a + h) % 2 ^ 256 = x at *
  generalize (b + h) % 2 ^ 256 = y at *
  generalize cmpI x y = c at *
  refine Fn_of (args := [W a, W b]) Tryz.func18 rfl Tryz.ntmps18 Tryz.results18 (by simp) ?_
  refine T_seq ?_
  refine T_region ?_
  refine S_boxA rfl rfl rfl fun _ => ?_
  refine S_boxA rfl rfl rfl fun _ => ?_
  refine S_val rfl rfl (Y_assign rfl) ?_
  refine S_nil ?_
  refine X_seq ?_
  refine T_seq ?_
  refine T_region ?_
  refine S_val rfl rfl (Y_build (und rfl) (siz rfl) (zer rfl) rfl rfl) ?_
  refine S_callV rfl rfl (bod rfl) (fun w hs => oh _) rfl rfl ?_
  refine S_allocA (zer rfl) rfl rfl fun _ => ?_
  refine S_storeAI 2 (siz rfl) rfl rfl rfl rfl (dl_length _ _ _) rfl ?_
  refine S_nil ?_
  refine X_seq ?_
  refine T_seq ?_
  refine T_draw (by kernel_rfl) (by kernel_rfl) rfl ?_
  refine D0_valM rfl rfl rfl (Y_loadAI 0 (und rfl) rfl rfl rfl (siz rfl) (dl_length _ _ _)) ?_
  refine D0_callV rfl rfl (bod rfl) (fun w hs => rof_any a _) rfl rfl ?_
  refine D0_valM rfl rfl rfl (Y_loadAI 2 (und rfl) rfl rfl rfl (siz rfl) (dl_length _ _ _)) ?_
  refine D0_callV rfl rfl (bod rfl) (fun w hs => ra _) rfl rfl ?_
  refine D0_valM rfl rfl rfl (Y_loadAI 1 (und rfl) rfl rfl rfl (siz rfl) (dl_length _ _ _)) ?_
  refine D0_callV rfl rfl (bod rfl) (fun w hs => rof_any b _) rfl rfl ?_
  refine D0_valM rfl rfl rfl (Y_loadAI 2 (und rfl) rfl rfl rfl (siz rfl) (dl_length _ _ _)) ?_
  refine D0_callV rfl rfl (bod rfl) (fun w hs => rb _) rfl rfl ?_
  skip
  refine D0_callV rfl rfl (bod rfl) (fun w hs => cm _) rfl rfl ?_
  refine D0_val rfl rfl rfl (Y_lss rfl rfl) ?_
  refine D0_val rfl rfl rfl (Y_assign rfl) ?_
  refine D0_nil ?_
  refine X_seq ?_
  refine T_ret ?_
  ((first | refine X_fin_ret ?_ | refine X_fin ?_); exact ⟨[_], [], .cons (.tmp rfl) .nil, Emb.nil _, rfl, rfl⟩)
end Go.Proofs.YtchoncjikdfbgaaGreat
