import Derived.Test.YtbedkgnkamaipaaWide4
import Derived.Test.YtbedkgnkamaipaaOpen
import Derived.Test.YtbedkgnkamaipaaDraw2
/- The laws of layer 2: what they have in common. -/
namespace Go.Proofs.Ytbedkgnkamaipaa
open Go.RowKit
set_option maxRecDepth 20000
set_option maxHeartbeats 4000000

theorem fill_smallW {g : Nat} (hg : g < 18446744073709551616) : fillI (List.replicate 4 0) [(0, (g : Int))] = dl 18446744073709551616 4 g := by
  show [(g : Int), 0, 0, 0] = [((g / 18446744073709551616 ^ 0 % 18446744073709551616 : Nat) : Int), ((g / 18446744073709551616 ^ 1 % 18446744073709551616 : Nat) : Int), ((g / 18446744073709551616 ^ 2 % 18446744073709551616 : Nat) : Int), ((g / 18446744073709551616 ^ 3 % 18446744073709551616 : Nat) : Int)]
  have h1 : ∀ i, 1 ≤ i → g / 18446744073709551616 ^ i % 18446744073709551616 = 0 := fun i hi => dig_high' (n := 1) (by omega) (by rwa [Nat.pow_one]) hi
  rw [h1 1 (by omega), h1 2 (by omega), h1 3 (by omega), Nat.pow_zero, Nat.div_one, Nat.mod_eq_of_lt hg]
  rfl
theorem expN_255 : expN 2 255 = 2 ^ 255 := by unfold expN; decide +kernel
theorem wfixed_any (w : World) : Fn Try.prog 17 #[] w fun v N => v = .bool true ∧ N = [] := by
  have z0 : dl 18446744073709551616 4 0 = fillI (List.replicate 4 0) [] := e_zero
  have c7 : dl 18446744073709551616 4 7 = fillI (List.replicate 4 0) [(0, 7)] := by decide +kernel
  have c1 : dl 18446744073709551616 4 1 = fillI (List.replicate 4 0) [(0, 1)] := by decide +kernel
  have c2 : dl 18446744073709551616 4 2 = fillI (List.replicate 4 0) [(0, 2)] := by decide +kernel
  have c3 : dl 18446744073709551616 4 3 = fillI (List.replicate 4 0) [(0, 3)] := by decide +kernel
  have c255 : dl 18446744073709551616 4 255 = fillI (List.replicate 4 0) [(0, 255)] := by decide +kernel
  have co : dl 18446744073709551616 4 (2 ^ 256 - 1) = fillI (List.replicate 4 0) [(0, 18446744073709551615), (1, 18446744073709551615), (2, 18446744073709551615), (3, 18446744073709551615)] := by decide +kernel
  have ch : dl 18446744073709551616 4 (2 ^ 255) = fillI (List.replicate 4 0) [(0, 0), (1, 0), (2, 0), (3, 9223372036854775808)] := by decide +kernel
  have d1 : ∀ w, Fn Try.prog 14 #[.agg (ints .u64 (fillI (List.replicate 4 0) [(0, 7)])), .agg (ints .u64 (fillI (List.replicate 4 0) [(0, 2)]))] w fun v N => v = .tuple #[.agg (ints .u64 (fillI (List.replicate 4 0) [(0, 3)])), .agg (ints .u64 (fillI (List.replicate 4 0) [(0, 1)]))] ∧ N = [] := fun w => by
    have := wdiv_any 7 2 (by omega) (by omega) w
    unfold W at this
    rwa [c7, c2, show 7 / 2 = 3 by decide, show remN 7 2 = 1 by decide, c3, c1] at this
  have d2 : ∀ w, Fn Try.prog 14 #[.agg (ints .u64 (fillI (List.replicate 4 0) [(0, 7)])), .agg (ints .u64 (fillI (List.replicate 4 0) []))] w fun v N => v = .tuple #[.agg (ints .u64 (fillI (List.replicate 4 0) [])), .agg (ints .u64 (fillI (List.replicate 4 0) []))] ∧ N = [] := fun w => by
    have := wdiv_any 7 0 (by omega) (by omega) w
    unfold W at this
    rwa [c7, show 7 / 0 = 0 by decide, show remN 7 0 = 0 by decide, z0] at this
  have a1 : ∀ w, Fn Try.prog 25 #[.agg (ints .u64 (fillI (List.replicate 4 0) [(0, 18446744073709551615), (1, 18446744073709551615), (2, 18446744073709551615), (3, 18446744073709551615)])), .agg (ints .u64 (fillI (List.replicate 4 0) [(0, 2)])), .agg (ints .u64 (fillI (List.replicate 4 0) [(0, 2)]))] w fun v N => v = .agg (ints .u64 (fillI (List.replicate 4 0) [(0, 1)])) ∧ N = [] := fun w => by
    have := addmod_any (2 ^ 256 - 1) 2 2 (by omega) (by omega) (by omega) w
    unfold W at this
    rwa [co, c2, show remN (2 ^ 256 - 1 + 2) 2 = 1 by decide +kernel, c1] at this
  have m1 : ∀ w, Fn Try.prog 26 #[.agg (ints .u64 (fillI (List.replicate 4 0) [(0, 0), (1, 0), (2, 0), (3, 9223372036854775808)])), .agg (ints .u64 (fillI (List.replicate 4 0) [(0, 2)])), .agg (ints .u64 (fillI (List.replicate 4 0) [(0, 3)]))] w fun v N => v = .agg (ints .u64 (fillI (List.replicate 4 0) [(0, 1)])) ∧ N = [] := fun w => by
    have := mulmod_any (2 ^ 255) 2 3 (by omega) (by omega) (by omega) w
    unfold W at this
    rwa [ch, c2, c3, show remN (2 ^ 255 * 2) 3 = 1 by decide +kernel, c1] at this
  have x1 : ∀ w, Fn Try.prog 27 #[.agg (ints .u64 (fillI (List.replicate 4 0) [(0, 2)])), .agg (ints .u64 (fillI (List.replicate 4 0) [(0, 255)]))] w fun v N => v = .agg (ints .u64 (fillI (List.replicate 4 0) [(0, 0), (1, 0), (2, 0), (3, 9223372036854775808)])) ∧ N = [] := fun w => by
    have := wexp_any 2 255 (by omega) (by omega) w
    unfold W at this
    rwa [expN_255, c2, c255, ch] at this
  clear z0 c7 c1 c2 c3 c255 co ch
  refine Fn_of (args := []) Try.func17 rfl Try.ntmps17 Try.results17 (by simp) ?_
  refine T_seq ?_
  refine T_region ?_
  refine S_val rfl rfl (Y_assign rfl) ?_
  refine S_nil ?_
  refine X_seq ?_
  refine T_seq ?_
  refine T_region ?_
  refine S_val rfl rfl (Y_build (und rfl) (siz rfl) (zer rfl) rfl rfl) ?_
  refine S_val rfl rfl (Y_build (und rfl) (siz rfl) (zer rfl) rfl rfl) ?_
  refine S_callV rfl rfl (bod rfl) (fun w hs => d1 _) rfl rfl ?_
  refine S_val rfl rfl (Y_move rfl) ?_
  refine S_val rfl rfl (Y_extract rfl rfl) ?_
  refine S_val rfl rfl (Y_extract rfl rfl) ?_
  refine S_allocA (zer rfl) rfl rfl fun _ => ?_
  refine S_allocA (zer rfl) rfl rfl fun _ => ?_
  refine S_storeAI 0 (siz rfl) rfl rfl rfl rfl rfl rfl ?_
  refine S_storeAI 1 (siz rfl) rfl rfl rfl rfl rfl rfl ?_
  refine S_nil ?_
  refine X_seq ?_
  refine T_seq ?_
  refine T_region ?_
  refine S_val rfl rfl (Y_build (und rfl) (siz rfl) (zer rfl) rfl rfl) ?_
  refine S_val rfl rfl (Y_build (und rfl) (siz rfl) (zer rfl) rfl rfl) ?_
  refine S_callV rfl rfl (bod rfl) (fun w hs => d2 _) rfl rfl ?_
  refine S_val rfl rfl (Y_move rfl) ?_
  refine S_val rfl rfl (Y_extract rfl rfl) ?_
  refine S_val rfl rfl (Y_extract rfl rfl) ?_
  refine S_allocA (zer rfl) rfl rfl fun _ => ?_
  refine S_allocA (zer rfl) rfl rfl fun _ => ?_
  refine S_storeAI 2 (siz rfl) rfl rfl rfl rfl rfl rfl ?_
  refine S_storeAI 3 (siz rfl) rfl rfl rfl rfl rfl rfl ?_
  refine S_nil ?_
  refine X_seq ?_
  refine T_seq ?_
  refine T_region ?_
  refine S_val rfl rfl (Y_build (und rfl) (siz rfl) (zer rfl) rfl rfl) ?_
  refine S_val rfl rfl (Y_build (und rfl) (siz rfl) (zer rfl) rfl rfl) ?_
  refine S_val rfl rfl (Y_build (und rfl) (siz rfl) (zer rfl) rfl rfl) ?_
  refine S_callV rfl rfl (bod rfl) (fun w hs => a1 _) rfl rfl ?_
  refine S_allocA (zer rfl) rfl rfl fun _ => ?_
  refine S_storeAI 4 (siz rfl) rfl rfl rfl rfl rfl rfl ?_
  refine S_nil ?_
  refine X_seq ?_
  refine T_seq ?_
  refine T_region ?_
  refine S_val rfl rfl (Y_build (und rfl) (siz rfl) (zer rfl) rfl rfl) ?_
  refine S_val rfl rfl (Y_build (und rfl) (siz rfl) (zer rfl) rfl rfl) ?_
  refine S_val rfl rfl (Y_build (und rfl) (siz rfl) (zer rfl) rfl rfl) ?_
  refine S_callV rfl rfl (bod rfl) (fun w hs => m1 _) rfl rfl ?_
  refine S_allocA (zer rfl) rfl rfl fun _ => ?_
  refine S_storeAI 5 (siz rfl) rfl rfl rfl rfl rfl rfl ?_
  refine S_nil ?_
  refine X_seq ?_
  refine T_seq ?_
  refine T_region ?_
  refine S_val rfl rfl (Y_loadAI 0 (und rfl) rfl rfl rfl (siz rfl) rfl) ?_
  refine S_val rfl rfl (Y_build (und rfl) (siz rfl) (zer rfl) rfl rfl) ?_
  refine S_val rfl rfl (Y_eqlA_t (eqg rfl) (und rfl) (und rfl) (siz rfl) rfl rfl rfl rfl) ?_
  refine S_val rfl rfl (Y_move rfl) ?_
  refine S_val rfl rfl (Y_loadAI 1 (und rfl) rfl rfl rfl (siz rfl) rfl) ?_
  refine S_val rfl rfl (Y_build (und rfl) (siz rfl) (zer rfl) rfl rfl) ?_
  refine S_val rfl rfl (Y_eqlA_t (eqg rfl) (und rfl) (und rfl) (siz rfl) rfl rfl rfl rfl) ?_
  refine S_val rfl rfl (Y_pick_t rfl rfl) ?_
  refine S_val rfl rfl (Y_move rfl) ?_
  refine S_val rfl rfl (Y_loadAI 2 (und rfl) rfl rfl rfl (siz rfl) rfl) ?_
  refine S_val rfl rfl (Y_build (und rfl) (siz rfl) (zer rfl) rfl rfl) ?_
  refine S_val rfl rfl (Y_eqlA_t (eqg rfl) (und rfl) (und rfl) (siz rfl) rfl rfl rfl rfl) ?_
  refine S_val rfl rfl (Y_pick_t rfl rfl) ?_
  refine S_val rfl rfl (Y_move rfl) ?_
  refine S_val rfl rfl (Y_loadAI 3 (und rfl) rfl rfl rfl (siz rfl) rfl) ?_
  refine S_val rfl rfl (Y_build (und rfl) (siz rfl) (zer rfl) rfl rfl) ?_
  refine S_val rfl rfl (Y_eqlA_t (eqg rfl) (und rfl) (und rfl) (siz rfl) rfl rfl rfl rfl) ?_
  refine S_val rfl rfl (Y_pick_t rfl rfl) ?_
  refine S_val rfl rfl (Y_move rfl) ?_
  refine S_val rfl rfl (Y_loadAI 4 (und rfl) rfl rfl rfl (siz rfl) rfl) ?_
  refine S_val rfl rfl (Y_build (und rfl) (siz rfl) (zer rfl) rfl rfl) ?_
  refine S_val rfl rfl (Y_eqlA_t (eqg rfl) (und rfl) (und rfl) (siz rfl) rfl rfl rfl rfl) ?_
  refine S_val rfl rfl (Y_pick_t rfl rfl) ?_
  refine S_val rfl rfl (Y_move rfl) ?_
  refine S_val rfl rfl (Y_loadAI 5 (und rfl) rfl rfl rfl (siz rfl) rfl) ?_
  refine S_val rfl rfl (Y_build (und rfl) (siz rfl) (zer rfl) rfl rfl) ?_
  refine S_val rfl rfl (Y_eqlA_t (eqg rfl) (und rfl) (und rfl) (siz rfl) rfl rfl rfl rfl) ?_
  refine S_val rfl rfl (Y_pick_t rfl rfl) ?_
  refine S_val rfl rfl (Y_move rfl) ?_
  refine S_val rfl rfl (Y_build (und rfl) (siz rfl) (zer rfl) rfl rfl) ?_
  refine S_val rfl rfl (Y_build (und rfl) (siz rfl) (zer rfl) rfl rfl) ?_
  refine S_callV rfl rfl (bod rfl) (fun w hs => x1 _) rfl rfl ?_
  refine S_val rfl rfl (Y_build (und rfl) (siz rfl) (zer rfl) rfl rfl) ?_
  refine S_val rfl rfl (Y_eqlA_t (eqg rfl) (und rfl) (und rfl) (siz rfl) rfl rfl rfl rfl) ?_
  refine S_val rfl rfl (Y_pick_t rfl rfl) ?_
  refine S_val rfl rfl (Y_assign rfl) ?_
  refine S_nil ?_
  refine X_seq ?_
  refine T_ret ?_
  ((first | refine X_fin_ret ?_ | refine X_fin ?_); exact ⟨[_], [], .cons (.tmp rfl) .nil, Emb.nil _, rfl, rfl⟩)
theorem powers_any (a : Nat) (ha : a < 2 ^ 256) (n : Nat) (hn : n < 2 ^ 256) (w : World) : Fn Try.prog 7 #[W a, W n] w fun v N => v = .bool true ∧ N = [] := by
  refine Fn_of (args := [W a, W n]) Try.func7 rfl Try.ntmps7 Try.results7 (by simp) ?_
  refine T_seq ?_
  refine T_region ?_
  refine S_boxA rfl rfl rfl fun _ => ?_
  refine S_boxA rfl rfl rfl fun _ => ?_
  refine S_val rfl rfl (Y_assign rfl) ?_
  refine S_nil ?_
  refine X_seq ?_
  refine T_seq ?_
  refine T_draw (by kernel_rfl) (by kernel_rfl) rfl ?_
  refine D0_callV rfl rfl (bod rfl) (fun w hs => wfixed_any _) rfl rfl ?_
  refine D0_val rfl rfl rfl (Y_move rfl) ?_
  refine D0_valM rfl rfl rfl (Y_loadAI 0 (und rfl) rfl rfl rfl (siz rfl) (dl_length _ _ _)) ?_
  refine D0_valM rfl rfl rfl (Y_loadAI 1 (und rfl) rfl rfl rfl (siz rfl) (dl_length _ _ _)) ?_
  refine D0_callV rfl rfl (bod rfl) (fun w hs => wexp_any a n ha hn _) rfl rfl ?_
  refine D0_valM rfl rfl rfl (Y_loadAI 0 (und rfl) rfl rfl rfl (siz rfl) (dl_length _ _ _)) ?_
  refine D0_valM rfl rfl rfl (Y_loadAI 1 (und rfl) rfl rfl rfl (siz rfl) (dl_length _ _ _)) ?_
  refine D0_callV rfl rfl (bod rfl) (fun w hs => rexp_any a n ha hn _) rfl rfl ?_
  refine D0_val rfl rfl rfl (Y_eqlA_t (eqg rfl) (und rfl) (und rfl) (siz rfl) rfl rfl (dl_length _ _ _) rfl) ?_
  refine D0_val rfl rfl rfl (Y_pick_t rfl rfl) ?_
  refine D0_val rfl rfl rfl (Y_assign rfl) ?_
  refine D0_nil ?_
  refine X_seq ?_
  refine T_ret ?_
  ((first | refine X_fin_ret ?_ | refine X_fin ?_); exact ⟨[_], [], .cons (.tmp rfl) .nil, Emb.nil _, rfl, rfl⟩)
end Go.Proofs.Ytbedkgnkamaipaa
