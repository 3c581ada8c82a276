import Derived.Test.YtbedkgnkamaipaaLaw02
import Derived.Test.YtbedkgnkamaipaaRN2
/- The law WideExponents hands back true. -/
namespace Go.Proofs.Ytbedkgnkamaipaa
open Go.RowKit
set_option maxRecDepth 20000
set_option maxHeartbeats 4000000

theorem lt256 {x : Nat} (h : x < 2 ^ 256) : x < 256 ^ 32 := by rwa [show (256 : Nat) ^ 32 = 2 ^ 256 by decide]
theorem expN_sum (x a b : Nat) : expN x a * expN x b % 2 ^ 256 = expN x (a + b) := by
  unfold expN
  rw [← Nat.mul_mod, ← Nat.pow_add]
theorem exponents_law (x : Nat) (hx : x < 2 ^ 256) (a : Nat) (ha : a < 18446744073709551616) (b : Nat) (hb : b < 18446744073709551616) (w : World) :
    Fn Try.prog 8 #[W x, .int .u64 a, .int .u64 b] w fun v N => v = .bool true ∧ N = [] := by
  have na : ∀ w, Fn Try.prog 16 #[.agg (ints .u64 (fillI (List.replicate 4 0) [(0, (a : Int))]))] w fun v N => N = [row .i64 (dl 256 32 a) v] := fun w => by rw [fill_smallW ha]; exact nof_any a w
  have nb : ∀ w, Fn Try.prog 16 #[.agg (ints .u64 (fillI (List.replicate 4 0) [(0, (b : Int))]))] w fun v N => N = [row .i64 (dl 256 32 b) v] := fun w => by rw [fill_smallW hb]; exact nof_any b w
  have xa : ∀ w, Fn Try.prog 27 #[W x, .agg (ints .u64 (fillI (List.replicate 4 0) [(0, (a : Int))]))] w fun v N => v = W (expN x a) ∧ N = [] := fun w => by rw [fill_smallW ha]; exact wexp_any x a hx (by omega) w
  have xb : ∀ w, Fn Try.prog 27 #[W x, .agg (ints .u64 (fillI (List.replicate 4 0) [(0, (b : Int))]))] w fun v N => v = W (expN x b) ∧ N = [] := fun w => by rw [fill_smallW hb]; exact wexp_any x b hx (by omega) w
  have pr := fun w => rmul_any (expN x a) (expN x b) w
  rw [expN_sum] at pr
  refine Fn_of (args := [W x, .int .u64 a, .int .u64 b]) Try.func8 rfl Try.ntmps8 Try.results8 (by simp) ?_
  refine T_seq ?_
  refine T_region ?_
  refine S_boxA rfl rfl rfl fun _ => ?_
  refine S_val rfl rfl (Y_assign rfl) ?_
  refine S_nil ?_
  refine X_seq ?_
  refine T_seq ?_
  refine T_region ?_
  refine S_val rfl rfl (Y_move rfl) ?_
  refine S_val rfl rfl (Y_build (und rfl) (siz rfl) (zer rfl) rfl rfl) ?_
  refine S_callR _ rfl rfl (bod rfl) (fun w hs => na _) rfl rfl fun _ => ?_
  refine S_val rfl rfl (Y_move rfl) ?_
  refine S_val rfl rfl (Y_build (und rfl) (siz rfl) (zer rfl) rfl rfl) ?_
  refine S_callR _ rfl rfl (bod rfl) (fun w hs => nb _) rfl rfl fun _ => ?_
  skip
  refine S_callR _ rfl rfl (bod rfl) (fun w hs => nplus_any a b 32 32 (lt256 (by omega)) (lt256 (by omega)) (by omega) (by omega) _ _ _ (by first | exact hs.rowRd 0 rfl | exact hs.rowRd 1 rfl | exact hs.rowRd 2 rfl | exact hs.rowRd 3 rfl | exact hs.rowRd 4 rfl | exact hs.rowRd 5 rfl | exact hs.rowRd 6 rfl | exact hs.rowRd 7 rfl | exact hs.rowRd 8 rfl | exact hs.rowRd 9 rfl | exact hs.rowRd 10 rfl | exact hs.rowRd 11 rfl | exact hs.rowRd 12 rfl | exact hs.rowRd 13 rfl | exact Rd.st (by assumption) hs) (by first | exact hs.rowRd 0 rfl | exact hs.rowRd 1 rfl | exact hs.rowRd 2 rfl | exact hs.rowRd 3 rfl | exact hs.rowRd 4 rfl | exact hs.rowRd 5 rfl | exact hs.rowRd 6 rfl | exact hs.rowRd 7 rfl | exact hs.rowRd 8 rfl | exact hs.rowRd 9 rfl | exact hs.rowRd 10 rfl | exact hs.rowRd 11 rfl | exact hs.rowRd 12 rfl | exact hs.rowRd 13 rfl | exact Rd.st (by assumption) hs)) rfl rfl fun _ => ?_
  skip
  refine S_callV rfl rfl (bod rfl) (fun w hs => nword_any (a + b) (max 32 32 + 1) (Nat.lt_of_lt_of_le (lt256 (show a + b < 2 ^ 256 by omega)) (Nat.pow_le_pow_right (by omega) (by omega))) _ _ (by first | exact hs.rowRd 0 rfl | exact hs.rowRd 1 rfl | exact hs.rowRd 2 rfl | exact hs.rowRd 3 rfl | exact hs.rowRd 4 rfl | exact hs.rowRd 5 rfl | exact hs.rowRd 6 rfl | exact hs.rowRd 7 rfl | exact hs.rowRd 8 rfl | exact hs.rowRd 9 rfl | exact hs.rowRd 10 rfl | exact hs.rowRd 11 rfl | exact hs.rowRd 12 rfl | exact hs.rowRd 13 rfl | exact Rd.st (by assumption) hs)) rfl rfl ?_
  refine S_allocA (zer rfl) rfl rfl fun _ => ?_
  refine S_storeAI 4 (siz rfl) rfl rfl rfl rfl (dl_length _ _ _) rfl ?_
  refine S_nil ?_
  refine X_seq ?_
  refine T_seq ?_
  rename_i b0 v1 v2 v3 b1
  refine T_drawL (.succ (.succ (.succ (.succ (.succ (.succ (.succ (.succ (.succ (.succ .zero)))))))))) [.no, .no, .nw 10 (.cells (ints .i64 (List.replicate 32 0)) 43), .nw 11 (.cells (ints .i64 (List.replicate 32 0)) 43)] [blk b0 (.cells (ints .u64 (dl 18446744073709551616 4 (x))) 24 (0, 0)), blk b1 (.cells (ints .u64 (dl 18446744073709551616 4 (a + b))) 24 (0, 0))] rfl (by kernel_rfl) (Emb.idx [0, 4] rfl rfl) rfl (by kernel_rfl) ?_
  refine D0_valM rfl rfl rfl (Y_loadAI 0 (und rfl) rfl rfl rfl (siz rfl) (dl_length _ _ _)) ?_
  refine D0_val rfl rfl rfl (Y_move rfl) ?_
  refine D0_val rfl rfl rfl (Y_build (und rfl) (siz rfl) (zer rfl) rfl rfl) ?_
  refine D0_callV rfl rfl (bod rfl) (fun w hs => xa _) rfl rfl ?_
  skip
  refine D0_callV rfl rfl (bod rfl) (fun w hs => rof_any (expN x a) _) rfl rfl ?_
  refine D0_valM rfl rfl rfl (Y_loadAI 0 (und rfl) rfl rfl rfl (siz rfl) (dl_length _ _ _)) ?_
  refine D0_val rfl rfl rfl (Y_move rfl) ?_
  refine D0_val rfl rfl rfl (Y_build (und rfl) (siz rfl) (zer rfl) rfl rfl) ?_
  refine D0_callV rfl rfl (bod rfl) (fun w hs => xb _) rfl rfl ?_
  skip
  refine D0_callV rfl rfl (bod rfl) (fun w hs => rof_any (expN x b) _) rfl rfl ?_
  refine D0_nilL ?_
  refine DL_allocA (zer rfl) rfl rfl rfl rfl rfl rfl ?_
  refine DL_allocA (zer rfl) rfl rfl rfl rfl rfl rfl ?_
  refine DL_storeAI rfl (fun _ => rfl) rfl (siz rfl) (fun _ => rfl) (fun _ => rfl) rfl (dl_length _ _ _) ?_
  refine DL_storeAI rfl (fun _ => rfl) rfl (siz rfl) (fun _ => rfl) (fun _ => rfl) rfl (dl_length _ _ _) ?_
  refine DL_nil fun _ => ?_
  refine X_seq ?_
  refine T_seq ?_
  refine T_draw (by kernel_rfl) (by kernel_rfl) rfl ?_
  refine D0_callV rfl rfl (bod rfl) (fun w hs => wfixed_any _) rfl rfl ?_
  refine D0_val rfl rfl rfl (Y_move rfl) ?_
  refine D0_valM rfl rfl rfl (Y_loadAI 0 (und rfl) rfl rfl rfl (siz rfl) (dl_length _ _ _)) ?_
  refine D0_valM rfl rfl rfl (Y_loadAI 1 (und rfl) rfl rfl rfl (siz rfl) (dl_length _ _ _)) ?_
  refine D0_callV rfl rfl (bod rfl) (fun w hs => wexp_any x (a + b) hx (by omega) _) rfl rfl ?_
  refine D0_valM rfl rfl rfl (Y_loadAI 2 (und rfl) rfl rfl rfl (siz rfl) (dl_length _ _ _)) ?_
  refine D0_valM rfl rfl rfl (Y_loadAI 3 (und rfl) rfl rfl rfl (siz rfl) (dl_length _ _ _)) ?_
  refine D0_callV rfl rfl (bod rfl) (fun w hs => pr _) rfl rfl ?_
  skip
  refine D0_callV rfl rfl (bod rfl) (fun w hs => rword_any (expN x (a + b)) _) rfl rfl ?_
  refine D0_val rfl rfl rfl (Y_eqlA_t (eqg rfl) (und rfl) (und rfl) (siz rfl) rfl rfl (dl_length _ _ _) rfl) ?_
  refine D0_val rfl rfl rfl (Y_pick_t rfl rfl) ?_
  refine D0_val rfl rfl rfl (Y_assign rfl) ?_
  refine D0_nil ?_
  refine X_seq ?_
  refine T_ret ?_
  ((first | refine X_fin_ret ?_ | refine X_fin ?_); exact ⟨[_], [], .cons (.tmp rfl) .nil, Emb.nil _, rfl, rfl⟩)
end Go.Proofs.Ytbedkgnkamaipaa
