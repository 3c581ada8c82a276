import Derived.Test.YtepmghjiemggpaaFee2
import Derived.Test.YtepmghjiemggpaaOpen
import Derived.Test.YtepmghjiemggpaaDraw3
/- The law FeeMore hands back true. -/
namespace Go.Proofs.Ytepmghjiemggpaa
open Go.RowKit
set_option maxRecDepth 20000
set_option maxHeartbeats 4000000

theorem feeNext_mono (b u v l : Nat) (hb : b < 2 ^ 256) (huv : u ≤ v) : feeNext b u l ≤ feeNext b v l := by
  have hup : ∀ p q c : Nat, p ≤ q → min (b * p / c) (2 ^ 256 - 1) ≤ min (b * q / c) (2 ^ 256 - 1) := fun p q c h => by
    have := Nat.div_le_div_right (c := c) (Nat.mul_le_mul_left b h)
    omega
  unfold feeNext
  simp only
  have h1 := hup (l / 2 - v) (l / 2 - u) (l / 2 * 8) (by omega)
  have h2 := hup (u - l / 2) (v - l / 2) (l / 2 * 8) (by omega)
  generalize min (b * (l / 2 - u) / (l / 2 * 8)) (2 ^ 256 - 1) = d1 at *
  generalize min (b * (l / 2 - v) / (l / 2 * 8)) (2 ^ 256 - 1) = d2 at *
  generalize min (b * (u - l / 2) / (l / 2 * 8)) (2 ^ 256 - 1) = d3 at *
  generalize min (b * (v - l / 2) / (l / 2 * 8)) (2 ^ 256 - 1) = d4 at *
  split <;> split <;> (try split) <;> (try split) <;> omega

theorem less_false (n1 n2 : Nat) (h1 : n1 < 2 ^ 256) (h2 : n2 < 2 ^ 256) (h : n1 ≤ n2) (w : World) (v u : Value) (hv : Rd w v .i64 (dl 256 32 n2)) (hu : Rd w u .i64 (dl 256 32 n1)) :
    Fn Try.prog 38 #[v, u] w fun r N => r = .bool false ∧ N = [] := by
  have := nless_any n2 n1 32 32 (lt256 h2) (lt256 h1) (by omega) (by omega) v u w hv hu
  rwa [decide_eq_false (by omega)] at this
theorem feeMore_law (b : Nat) (hb : b < 2 ^ 256) (u : Nat) (hu : u < 18446744073709551616) (v : Nat) (hv : v < 18446744073709551616) (l : Nat) (hl : l < 18446744073709551616) (w : World) :
    Fn Try.prog 7 #[W b, .int .u64 u, .int .u64 v, .int .u64 l] w fun v N => v = .bool true ∧ N = [] := by
  by_cases huv : v < u
  · have hn1 := fun w => fnext_any b v l hb hv hl w
    have hn2 := fun w => fnext_any b u l hb hu hl w
    have hle := less_false _ _ (feeNext_lt b v l hb) (feeNext_lt b u l hb) (feeNext_mono b v u l hb (by omega))
    generalize feeNext b v l = n1 at *
    generalize feeNext b u l = n2 at *
    refine Fn_of (args := [W b, .int .u64 u, .int .u64 v, .int .u64 l]) Try.func7 rfl Try.ntmps7 Try.results7 (by simp) ?_
    refine T_seq ?_
    refine T_region ?_
    refine S_boxA rfl rfl rfl fun _ => ?_
    refine S_val rfl rfl (Y_assign rfl) ?_
    refine S_nil ?_
    refine X_seq ?_
    refine T_seq ?_
    refine T_seq ?_
    refine T_region ?_
    refine S_val rfl rfl (Y_move rfl) ?_
    refine S_val rfl rfl (Y_move rfl) ?_
    refine S_val rfl rfl (Y_gtr_t rfl rfl (by omega)) ?_
    refine S_nil ?_
    refine X_seq ?_
    refine T_cond_true rfl ?_
    refine T_region ?_
    refine S_val rfl rfl (Y_move rfl) ?_
    refine S_val rfl rfl (Y_move rfl) ?_
    refine S_val rfl rfl (Y_assign rfl) ?_
    refine S_val rfl rfl (Y_assign rfl) ?_
    refine S_nil ?_
    refine X_seq ?_
    refine T_seq ?_
    rename_i b0
    refine T_drawL (.succ (.succ (.succ (.succ (.succ (.succ (.succ (.succ .zero)))))))) [.no, .no, .nw 8 (.cells (ints .u64 (List.replicate 4 0)) 24), .nw 9 (.cells (ints .u64 (List.replicate 4 0)) 24)] [blk b0 (.cells (ints .u64 (dl 18446744073709551616 4 (b))) 24 (0, 0))] rfl (by kernel_rfl) (Emb.idx [0] rfl rfl) rfl (by kernel_rfl) ?_
    refine D0_valM rfl rfl rfl (Y_loadAI 0 (und rfl) rfl rfl rfl (siz rfl) (dl_length _ _ _)) ?_
    refine D0_val rfl rfl rfl (Y_move rfl) ?_
    refine D0_val rfl rfl rfl (Y_move rfl) ?_
    refine D0_callV rfl rfl (bod rfl) (fun w hs => hn1 _) rfl rfl ?_
    refine D0_valM rfl rfl rfl (Y_loadAI 0 (und rfl) rfl rfl rfl (siz rfl) (dl_length _ _ _)) ?_
    refine D0_val rfl rfl rfl (Y_move rfl) ?_
    refine D0_val rfl rfl rfl (Y_move rfl) ?_
    refine D0_callV rfl rfl (bod rfl) (fun w hs => hn2 _) rfl rfl ?_
    refine D0_nilL ?_
    refine DL_allocA (zer rfl) rfl rfl rfl rfl rfl rfl ?_
    refine DL_allocA (zer rfl) rfl rfl rfl rfl rfl rfl ?_
    refine DL_storeAI rfl (fun _ => rfl) rfl (siz rfl) (fun _ => rfl) (fun _ => rfl) rfl (dl_length _ _ _) ?_
    refine DL_storeAI rfl (fun _ => rfl) rfl (siz rfl) (fun _ => rfl) (fun _ => rfl) rfl (dl_length _ _ _) ?_
    refine DL_nil fun _ => ?_
    refine X_seq ?_
    refine T_seq ?_
    refine T_draw (by kernel_rfl) (by kernel_rfl) rfl ?_
    refine D0_callV rfl rfl (bod rfl) (fun w hs => ffixed_any _) rfl rfl ?_
    refine D0_val rfl rfl rfl (Y_move rfl) ?_
    refine D0_valM rfl rfl rfl (Y_loadAI 2 (und rfl) rfl rfl rfl (siz rfl) (dl_length _ _ _)) ?_
    refine D0_two ?_
    skip
    refine D2_call [] (by kernel_rfl) (fun _ => rfl) (fun _ => rfl) (bod rfl) (fun H w hK hs => nof_any n2 w) (fun _ => rfl) rfl ?_
    refine D2_valM rfl (fun _ => rfl) rfl (fun _ => (Y_loadAI 1 (und rfl) rfl rfl rfl (siz rfl) (dl_length _ _ _))) ?_
    refine D2_call [] (by kernel_rfl) (fun _ => rfl) (fun _ => rfl) (bod rfl) (fun H w hK hs => nof_any n1 w) (fun _ => rfl) rfl ?_
    skip
    refine D2_callV [0, 1] (by kernel_rfl) (fun _ => rfl) (fun _ => rfl) (bod rfl) (fun H w hK hs => hle w _ _ (by first | exact Kn.rd hK hs 0 rfl | exact Kn.rd hK hs 1 rfl | exact Kn.rd hK hs 2 rfl | exact Kn.rd hK hs 3 rfl | exact Kn.rd hK hs 4 rfl | exact Kn.rd hK hs 5 rfl | exact hs.left.rowRd 0 rfl | exact hs.left.rowRd 1 rfl | exact hs.left.rowRd 2 rfl | exact hs.left.rowRd 3 rfl | exact hs.left.rowRd 4 rfl | exact hs.left.rowRd 5 rfl | exact hs.left.rowRd 6 rfl | exact hs.left.rowRd 7 rfl | exact hs.left.rowRd 8 rfl | exact hs.left.rowRd 9 rfl | exact hs.left.rowRd 10 rfl | exact hs.left.rowRd 11 rfl | exact hs.left.rowRd 12 rfl | exact hs.left.rowRd 13 rfl | exact Rd.st (by assumption) hs) (by first | exact Kn.rd hK hs 0 rfl | exact Kn.rd hK hs 1 rfl | exact Kn.rd hK hs 2 rfl | exact Kn.rd hK hs 3 rfl | exact Kn.rd hK hs 4 rfl | exact Kn.rd hK hs 5 rfl | exact hs.left.rowRd 0 rfl | exact hs.left.rowRd 1 rfl | exact hs.left.rowRd 2 rfl | exact hs.left.rowRd 3 rfl | exact hs.left.rowRd 4 rfl | exact hs.left.rowRd 5 rfl | exact hs.left.rowRd 6 rfl | exact hs.left.rowRd 7 rfl | exact hs.left.rowRd 8 rfl | exact hs.left.rowRd 9 rfl | exact hs.left.rowRd 10 rfl | exact hs.left.rowRd 11 rfl | exact hs.left.rowRd 12 rfl | exact hs.left.rowRd 13 rfl | exact Rd.st (by assumption) hs)) (fun _ => rfl) rfl ?_
    refine D2_val rfl (fun _ => rfl) rfl (fun _ => (Y_not rfl rfl)) ?_
    refine D2_val rfl (fun _ => rfl) rfl (fun _ => (Y_pick_t rfl rfl)) ?_
    refine D2_val rfl (fun _ => rfl) rfl (fun _ => (Y_assign rfl)) ?_
    refine D2_nilR [(3, .i64, dl 256 32 n2), (5, .i64, dl 256 32 n1)] rfl fun V => ?_
    refine X_seq ?_
    refine T_ret ?_
    ((first | refine X_fin_ret ?_ | refine X_fin ?_); exact ⟨[_], [], .cons (.tmp rfl) .nil, Emb.nil _, rfl, rfl⟩)
  · have hn1 := fun w => fnext_any b u l hb hu hl w
    have hn2 := fun w => fnext_any b v l hb hv hl w
    have hle := less_false _ _ (feeNext_lt b u l hb) (feeNext_lt b v l hb) (feeNext_mono b u v l hb (by omega))
    generalize feeNext b u l = n1 at *
    generalize feeNext b v l = n2 at *
    refine Fn_of (args := [W b, .int .u64 u, .int .u64 v, .int .u64 l]) Try.func7 rfl Try.ntmps7 Try.results7 (by simp) ?_
    refine T_seq ?_
    refine T_region ?_
    refine S_boxA rfl rfl rfl fun _ => ?_
    refine S_val rfl rfl (Y_assign rfl) ?_
    refine S_nil ?_
    refine X_seq ?_
    refine T_seq ?_
    refine T_seq ?_
    refine T_region ?_
    refine S_val rfl rfl (Y_move rfl) ?_
    refine S_val rfl rfl (Y_move rfl) ?_
    refine S_val rfl rfl (Y_gtr_f rfl rfl (by omega)) ?_
    refine S_nil ?_
    refine X_seq ?_
    refine T_cond_false rfl ?_
    refine T_skip ?_
    refine X_seq ?_
    refine T_seq ?_
    rename_i b0
    refine T_drawL (.succ (.succ (.succ (.succ (.succ (.succ (.succ (.succ .zero)))))))) [.no, .no, .nw 8 (.cells (ints .u64 (List.replicate 4 0)) 24), .nw 9 (.cells (ints .u64 (List.replicate 4 0)) 24)] [blk b0 (.cells (ints .u64 (dl 18446744073709551616 4 (b))) 24 (0, 0))] rfl (by kernel_rfl) (Emb.idx [0] rfl rfl) rfl (by kernel_rfl) ?_
    refine D0_valM rfl rfl rfl (Y_loadAI 0 (und rfl) rfl rfl rfl (siz rfl) (dl_length _ _ _)) ?_
    refine D0_val rfl rfl rfl (Y_move rfl) ?_
    refine D0_val rfl rfl rfl (Y_move rfl) ?_
    refine D0_callV rfl rfl (bod rfl) (fun w hs => hn1 _) rfl rfl ?_
    refine D0_valM rfl rfl rfl (Y_loadAI 0 (und rfl) rfl rfl rfl (siz rfl) (dl_length _ _ _)) ?_
    refine D0_val rfl rfl rfl (Y_move rfl) ?_
    refine D0_val rfl rfl rfl (Y_move rfl) ?_
    refine D0_callV rfl rfl (bod rfl) (fun w hs => hn2 _) rfl rfl ?_
    refine D0_nilL ?_
    refine DL_allocA (zer rfl) rfl rfl rfl rfl rfl rfl ?_
    refine DL_allocA (zer rfl) rfl rfl rfl rfl rfl rfl ?_
    refine DL_storeAI rfl (fun _ => rfl) rfl (siz rfl) (fun _ => rfl) (fun _ => rfl) rfl (dl_length _ _ _) ?_
    refine DL_storeAI rfl (fun _ => rfl) rfl (siz rfl) (fun _ => rfl) (fun _ => rfl) rfl (dl_length _ _ _) ?_
    refine DL_nil fun _ => ?_
    refine X_seq ?_
    refine T_seq ?_
    refine T_draw (by kernel_rfl) (by kernel_rfl) rfl ?_
    refine D0_callV rfl rfl (bod rfl) (fun w hs => ffixed_any _) rfl rfl ?_
    refine D0_val rfl rfl rfl (Y_move rfl) ?_
    refine D0_valM rfl rfl rfl (Y_loadAI 2 (und rfl) rfl rfl rfl (siz rfl) (dl_length _ _ _)) ?_
    refine D0_two ?_
    skip
    refine D2_call [] (by kernel_rfl) (fun _ => rfl) (fun _ => rfl) (bod rfl) (fun H w hK hs => nof_any n2 w) (fun _ => rfl) rfl ?_
    refine D2_valM rfl (fun _ => rfl) rfl (fun _ => (Y_loadAI 1 (und rfl) rfl rfl rfl (siz rfl) (dl_length _ _ _))) ?_
    refine D2_call [] (by kernel_rfl) (fun _ => rfl) (fun _ => rfl) (bod rfl) (fun H w hK hs => nof_any n1 w) (fun _ => rfl) rfl ?_
    skip
    refine D2_callV [0, 1] (by kernel_rfl) (fun _ => rfl) (fun _ => rfl) (bod rfl) (fun H w hK hs => hle w _ _ (by first | exact Kn.rd hK hs 0 rfl | exact Kn.rd hK hs 1 rfl | exact Kn.rd hK hs 2 rfl | exact Kn.rd hK hs 3 rfl | exact Kn.rd hK hs 4 rfl | exact Kn.rd hK hs 5 rfl | exact hs.left.rowRd 0 rfl | exact hs.left.rowRd 1 rfl | exact hs.left.rowRd 2 rfl | exact hs.left.rowRd 3 rfl | exact hs.left.rowRd 4 rfl | exact hs.left.rowRd 5 rfl | exact hs.left.rowRd 6 rfl | exact hs.left.rowRd 7 rfl | exact hs.left.rowRd 8 rfl | exact hs.left.rowRd 9 rfl | exact hs.left.rowRd 10 rfl | exact hs.left.rowRd 11 rfl | exact hs.left.rowRd 12 rfl | exact hs.left.rowRd 13 rfl | exact Rd.st (by assumption) hs) (by first | exact Kn.rd hK hs 0 rfl | exact Kn.rd hK hs 1 rfl | exact Kn.rd hK hs 2 rfl | exact Kn.rd hK hs 3 rfl | exact Kn.rd hK hs 4 rfl | exact Kn.rd hK hs 5 rfl | exact hs.left.rowRd 0 rfl | exact hs.left.rowRd 1 rfl | exact hs.left.rowRd 2 rfl | exact hs.left.rowRd 3 rfl | exact hs.left.rowRd 4 rfl | exact hs.left.rowRd 5 rfl | exact hs.left.rowRd 6 rfl | exact hs.left.rowRd 7 rfl | exact hs.left.rowRd 8 rfl | exact hs.left.rowRd 9 rfl | exact hs.left.rowRd 10 rfl | exact hs.left.rowRd 11 rfl | exact hs.left.rowRd 12 rfl | exact hs.left.rowRd 13 rfl | exact Rd.st (by assumption) hs)) (fun _ => rfl) rfl ?_
    refine D2_val rfl (fun _ => rfl) rfl (fun _ => (Y_not rfl rfl)) ?_
    refine D2_val rfl (fun _ => rfl) rfl (fun _ => (Y_pick_t rfl rfl)) ?_
    refine D2_val rfl (fun _ => rfl) rfl (fun _ => (Y_assign rfl)) ?_
    refine D2_nilR [(3, .i64, dl 256 32 n2), (5, .i64, dl 256 32 n1)] rfl fun V => ?_
    refine X_seq ?_
    refine T_ret ?_
    ((first | refine X_fin_ret ?_ | refine X_fin ?_); exact ⟨[_], [], .cons (.tmp rfl) .nil, Emb.nil _, rfl, rfl⟩)
end Go.Proofs.Ytepmghjiemggpaa
