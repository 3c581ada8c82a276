import Derived.Test.YtchoncjikdfbgaaSign2
import Derived.Test.YtchoncjikdfbgaaRef5
import Derived.Test.YtchoncjikdfbgaaRN3
import Derived.Test.YtchoncjikdfbgaaDraw3
import Derived.Test.YtchoncjikdfbgaaOpen
/- Signs: the chapter's examples, the references, and the laws SignLess and SignDivides. -/
namespace Go.Proofs.Ytchoncjikdfbgaa
open Go.RowKit
set_option maxRecDepth 20000
set_option maxHeartbeats 4000000

theorem sfixed_any (w : World) : Fn Try.prog 21 #[] w fun v N => v = .bool true ∧ N = [] := by
  obtain ⟨M7, e7⟩ : ∃ m, 2 ^ 256 - 7 = m := ⟨_, rfl⟩
  obtain ⟨M3, e3⟩ : ∃ m, 2 ^ 256 - 3 = m := ⟨_, rfl⟩
  obtain ⟨M1, e1⟩ : ∃ m, 2 ^ 256 - 1 = m := ⟨_, rfl⟩
  obtain ⟨M8, e8⟩ : ∃ m, 2 ^ 256 - 8 = m := ⟨_, rfl⟩
  obtain ⟨M4, e4⟩ : ∃ m, 2 ^ 256 - 4 = m := ⟨_, rfl⟩
  have m7 := minus_any 7 M7 (by omega) (by omega) e7
  have m3 := minus_any 3 M3 (by omega) (by omega) e3
  have m1 := minus_any 1 M1 (by omega) (by omega) e1
  have m8 := minus_any 8 M8 (by omega) (by omega) e8
  have m4 := minus_any 4 M4 (by omega) (by omega) e4
  have c2 : dl 18446744073709551616 4 2 = fillI (List.replicate 4 0) [(0, 2)] := by decide +kernel
  have c255 : dl 18446744073709551616 4 255 = fillI (List.replicate 4 0) [(0, 255)] := by decide +kernel
  have z0 : dl 18446744073709551616 4 0 = fillI (List.replicate 4 0) [] := e_zero
  have dv : ∀ w, Fn Try.prog 59 #[W M7, .agg (ints .u64 (fillI (List.replicate 4 0) [(0, 2)]))] w fun v N => v = .tuple #[W M3, W M1] ∧ N = [] := fun w => by
    have := sdiv_any M7 2 (by omega) (by omega) w
    rw [show sdq (sgn M7) (sgn 2) (absN M7 / absN 2) = M3 by rw [← e7, ← e3]; decide +kernel, show sdr (sgn M7) (remN (absN M7) (absN 2)) = M1 by rw [← e7, ← e1]; decide +kernel] at this
    unfold W at this ⊢
    rwa [c2] at this
  have ls : ∀ w, Fn Try.prog 61 #[W M1, .agg (ints .u64 (fillI (List.replicate 4 0) []))] w fun v N => v = .bool true ∧ N = [] := fun w => by
    have := sless_any M1 0 (by omega) (by omega) w
    rw [show slt M1 0 = true by rw [← e1]; decide +kernel] at this
    unfold W at this ⊢
    rwa [z0] at this
  have xt : ∀ w, Fn Try.prog 20 #[.agg (ints .u64 (fillI (List.replicate 4 0) [])), .agg (ints .u64 (fillI (List.replicate 4 0) [(0, 255)]))] w fun v N => v = W M1 ∧ N = [] := fun w => by
    have := sextend_any 0 255 (by omega) (by omega) w
    rw [show extN 0 255 = M1 by rw [← e1]; decide +kernel] at this
    unfold W at this ⊢
    rwa [z0, c255] at this
  have s8 : ∀ w, Fn Try.prog 23 #[W M8, .int .u64 1] w fun v N => v = W M4 ∧ N = [] := fun w => by
    have := ssar_any M8 1 (by omega) (by omega) w
    rwa [show sarN M8 1 = M4 by rw [← e8, ← e4]; decide +kernel] at this
  have s1 : ∀ w, Fn Try.prog 23 #[W M1, .int .u64 300] w fun v N => v = W M1 ∧ N = [] := fun w => by
    have := ssar_any M1 300 (by omega) (by omega) w
    rwa [show sarN M1 300 = M1 by rw [← e1]; decide +kernel] at this
  clear e7 e3 e1 e8 e4 c2 c255 z0
  refine Fn_of (args := []) Try.func21 rfl Try.ntmps21 Try.results21 (by simp) ?_
  refine T_seq ?_
  refine T_region ?_
  refine S_val rfl rfl (Y_assign rfl) ?_
  refine S_nil ?_
  refine X_seq ?_
  refine T_seq ?_
  refine T_region ?_
  refine S_callV rfl rfl (bod rfl) (fun w hs => m7 _) rfl rfl ?_
  refine S_val rfl rfl (Y_build (und rfl) (siz rfl) (zer rfl) rfl rfl) ?_
  refine S_callV rfl rfl (bod rfl) (fun w hs => dv _) rfl rfl ?_
  refine S_val rfl rfl (Y_move rfl) ?_
  refine S_val rfl rfl (Y_extract rfl rfl) ?_
  refine S_val rfl rfl (Y_extract rfl rfl) ?_
  refine S_allocA (zer rfl) rfl rfl fun _ => ?_
  refine S_allocA (zer rfl) rfl rfl fun _ => ?_
  refine S_storeAI 0 (siz rfl) rfl rfl rfl rfl (dl_length _ _ _) rfl ?_
  refine S_storeAI 1 (siz rfl) rfl rfl rfl rfl (dl_length _ _ _) rfl ?_
  refine S_nil ?_
  refine X_seq ?_
  refine T_seq ?_
  refine T_draw (by kernel_rfl) (by kernel_rfl) rfl ?_
  refine D0_valM rfl rfl rfl (Y_loadAI 0 (und rfl) rfl rfl rfl (siz rfl) (dl_length _ _ _)) ?_
  refine D0_callV rfl rfl (bod rfl) (fun w hs => m3 _) rfl rfl ?_
  refine D0_val rfl rfl rfl (Y_eqlA_t (eqg rfl) (und rfl) (und rfl) (siz rfl) rfl rfl (dl_length _ _ _) rfl) ?_
  refine D0_val rfl rfl rfl (Y_move rfl) ?_
  refine D0_valM rfl rfl rfl (Y_loadAI 1 (und rfl) rfl rfl rfl (siz rfl) (dl_length _ _ _)) ?_
  refine D0_callV rfl rfl (bod rfl) (fun w hs => m1 _) rfl rfl ?_
  refine D0_val rfl rfl rfl (Y_eqlA_t (eqg rfl) (und rfl) (und rfl) (siz rfl) rfl rfl (dl_length _ _ _) rfl) ?_
  refine D0_val rfl rfl rfl (Y_pick_t rfl rfl) ?_
  refine D0_val rfl rfl rfl (Y_move rfl) ?_
  refine D0_callV rfl rfl (bod rfl) (fun w hs => m1 _) rfl rfl ?_
  refine D0_val rfl rfl rfl (Y_build (und rfl) (siz rfl) (zer rfl) rfl rfl) ?_
  refine D0_callV rfl rfl (bod rfl) (fun w hs => ls _) rfl rfl ?_
  refine D0_val rfl rfl rfl (Y_pick_t rfl rfl) ?_
  refine D0_val rfl rfl rfl (Y_move rfl) ?_
  refine D0_val rfl rfl rfl (Y_build (und rfl) (siz rfl) (zer rfl) rfl rfl) ?_
  refine D0_val rfl rfl rfl (Y_build (und rfl) (siz rfl) (zer rfl) rfl rfl) ?_
  refine D0_callV rfl rfl (bod rfl) (fun w hs => xt _) rfl rfl ?_
  skip
  refine D0_callV rfl rfl (bod rfl) (fun w hs => m1 _) rfl rfl ?_
  refine D0_val rfl rfl rfl (Y_eqlA_t (eqg rfl) (und rfl) (und rfl) (siz rfl) rfl rfl (dl_length _ _ _) rfl) ?_
  refine D0_val rfl rfl rfl (Y_pick_t rfl rfl) ?_
  refine D0_val rfl rfl rfl (Y_move rfl) ?_
  refine D0_callV rfl rfl (bod rfl) (fun w hs => m8 _) rfl rfl ?_
  skip
  refine D0_callV rfl rfl (bod rfl) (fun w hs => s8 _) rfl rfl ?_
  skip
  refine D0_callV rfl rfl (bod rfl) (fun w hs => m4 _) rfl rfl ?_
  refine D0_val rfl rfl rfl (Y_eqlA_t (eqg rfl) (und rfl) (und rfl) (siz rfl) rfl rfl (dl_length _ _ _) rfl) ?_
  refine D0_val rfl rfl rfl (Y_pick_t rfl rfl) ?_
  refine D0_val rfl rfl rfl (Y_move rfl) ?_
  refine D0_callV rfl rfl (bod rfl) (fun w hs => m1 _) rfl rfl ?_
  skip
  refine D0_callV rfl rfl (bod rfl) (fun w hs => s1 _) rfl rfl ?_
  skip
  refine D0_callV rfl rfl (bod rfl) (fun w hs => m1 _) rfl rfl ?_
  refine D0_val rfl rfl rfl (Y_eqlA_t (eqg rfl) (und rfl) (und rfl) (siz rfl) rfl rfl (dl_length _ _ _) rfl) ?_
  refine D0_val rfl rfl rfl (Y_pick_t rfl rfl) ?_
  refine D0_val rfl rfl rfl (Y_assign rfl) ?_
  refine D0_nil ?_
  refine X_seq ?_
  refine T_ret ?_
  ((first | refine X_fin_ret ?_ | refine X_fin ?_); exact ⟨[_], [], .cons (.tmp rfl) .nil, Emb.nil _, rfl, rfl⟩)
theorem rb_law {a : Nat} (ha : a < 2 ^ 256) : decide ((9223372036854775808 : Int) ≤ ((a / 18446744073709551616 ^ 3 % 18446744073709551616 : Nat) : Int)) = sgn a := by
  unfold sgn
  exact decide_eq_decide.2 ⟨fun _ => by omega, fun _ => by omega⟩
theorem lt_256 {x : Nat} (hx : x < 2 ^ 256) : x < 256 ^ 32 := by rwa [show (256 : Nat) ^ 32 = 2 ^ 256 by decide]
end Go.Proofs.Ytchoncjikdfbgaa
