import Derived.Test.YtchoncjikdfbgaaDoorGas1
/- Package modexp: the three lengths. -/
namespace Go.Proofs.YtchoncjikdfbgaaDoor
open Go.RowKit
set_option maxRecDepth 20000
set_option maxHeartbeats 4000000

/-- The three words. -/
def w3 (a b c : Nat) : List Int := dl 18446744073709551616 4 a ++ (dl 18446744073709551616 4 b ++ dl 18446744073709551616 4 c)
@[simp] theorem w3_length (a b c : Nat) : (w3 a b c).length = 12 := by simp [w3]
theorem w3_0 (a b c : Nat) : ((w3 a b c).drop (0 + 0 * 4)).take 4 = dl 18446744073709551616 4 a := rfl
theorem w3_1 (a b c : Nat) : ((w3 a b c).drop (0 + 1 * 4)).take 4 = dl 18446744073709551616 4 b := rfl
theorem w3_2 (a b c : Nat) : ((w3 a b c).drop (0 + 2 * 4)).take 4 = dl 18446744073709551616 4 c := rfl
theorem w3_s0 (a b c z : Nat) : (w3 a b c).take (0 + 0 * 4) ++ dl 18446744073709551616 4 z ++ (w3 a b c).drop (0 + 0 * 4 + 4) = w3 z b c := rfl
theorem w3_s1 (a b c z : Nat) : (w3 a b c).take (0 + 1 * 4) ++ dl 18446744073709551616 4 z ++ (w3 a b c).drop (0 + 1 * 4 + 4) = w3 a z c := rfl
theorem w3_s2 (a b c z : Nat) : (w3 a b c).take (0 + 2 * 4) ++ dl 18446744073709551616 4 z ++ (w3 a b c).drop (0 + 2 * 4 + 4) = w3 a b z := rfl
theorem w3_zero : List.replicate 12 0 = w3 0 0 0 := by decide +kernel
theorem mlengths_any (n x : Nat) (hx : x < 256 ^ n) (hn : n ≤ 1000000) (v : Value) (w : World) (hr : Rd w v .u8 (bel n x)) :
    Fn Tryd.prog 23 #[v] w fun u N => u = .agg (ints .u64 (w3 (lenN n x 0) (lenN n x 1) (lenN n x 2))) ∧ N = [] := by
  have pt := fun k (hk : k ≤ 2) w h => mpart_any n x (32 * k) 32 hx hn (by omega) (by omega) v w h
  simp only [lenN_bel] at pt
  have fr := fun k v w h => wfrom_any 32 (lenN n x k) (lenN_lt n x k) (by omega) v w h
  simp only [fun k => Nat.mod_eq_of_lt (lenN_lt n x k)] at fr
  generalize lenN n x = l at *
  refine Fn_of (args := [v]) Tryd.func23 rfl Tryd.ntmps23 Tryd.results23 (by simp) ?_
  refine T_seq ?_
  refine T_region ?_
  refine S_allocA (zer rfl) rfl rfl fun _ => ?_
  refine S_nil ?_
  refine X_seq ?_
  refine T_seq ?_
  refine T_region ?_
  refine S_allocA (zer rfl) rfl rfl fun _ => ?_
  refine S_nil ?_
  refine X_seq ?_
  refine T_seq ?_
  refine T_seq ?_
  refine T_region ?_
  refine S_val rfl rfl (Y_move rfl) ?_
  refine S_nil ?_
  refine X_seq ?_
  refine T_block ?_
  rename_i b0 b1
  refine T_loopE (α := Nat × Nat × Nat × Nat) (fun a => a = (0, 0, 0, 0) ∨ a = (1, l 0, 0, 0) ∨ a = (2, l 0, l 1, 0) ∨ a = (3, l 0, l 1, l 2))
    (fun a => [(0, v), (2, .pointer (some ⟨b0, 0, none⟩)), (3, .pointer (some ⟨b1, 0, none⟩)), (5, .int .i64 a.1)])
    (fun a => [blk b0 (.cells (ints .u64 (List.replicate 12 0)) 48 (0, 0)), blk b1 (.cells (ints .u64 (w3 a.2.1 a.2.2.1 a.2.2.2)) 48 (0, 0))])
    (fun a => 3 - a.1) (0, 0, 0, 0) (.inl rfl) (by repeat (first | exact Env.sub_nil _ | (apply Env.sub_cons; rfl))) (by dsimp only; rw [← w3_zero]; exact Emb.refl _) ?_
  rintro _ (rfl | rfl | rfl | rfl)
  · dsimp only
    refine T_seq ?_
    refine T_region ?_
    refine S_val rfl rfl (Y_lss_t rfl rfl (by decide)) ?_
    refine S_nil ?_
    refine X_seq ?_
    refine T_seq ?_
    refine T_cond_true rfl ?_
    refine T_skip ?_
    refine X_seq ?_
    refine T_seq ?_
    refine T_block ?_
    refine T_seq ?_
    refine T_region ?_
    refine S_val rfl rfl (Y_move rfl) ?_
    refine S_val rfl rfl (Y_assign rfl) ?_
    refine S_nil ?_
    refine X_seq ?_
    refine T_region ?_
    refine S_val rfl rfl (Y_move rfl) ?_
    refine S_val rfl rfl (Y_move rfl) ?_
    refine S_val rfl rfl (Y_move rfl) ?_
    refine S_val rfl rfl (Y_mulN rfl rfl (nat_lit' _) (nat_cast _) (Nat.le_of_ble_eq_true rfl)) ?_
    refine S_val rfl rfl (Y_conv (und rfl) (und rfl) rfl (wu64 (by omega) (by omega))) ?_
    refine S_callR _ rfl rfl (bod rfl) (fun w hs => pt 0 (by omega) _ (by first | exact hs.rowRd 0 rfl | exact hs.rowRd 1 rfl | exact hs.rowRd 2 rfl | exact hs.rowRd 3 rfl | exact hs.rowRd 4 rfl | exact hs.rowRd 5 rfl | exact hs.rowRd 6 rfl | exact hs.rowRd 7 rfl | exact hs.rowRd 8 rfl | exact hs.rowRd 9 rfl | exact hs.rowRd 10 rfl | exact hs.rowRd 11 rfl | exact hs.rowRd 12 rfl | exact hs.rowRd 13 rfl | exact Rd.st (by assumption) hs)) rfl rfl fun _ => ?_
    skip
    refine S_callV rfl rfl (bod rfl) (fun w hs => fr 0 _ _ (by first | exact hs.rowRd 0 rfl | exact hs.rowRd 1 rfl | exact hs.rowRd 2 rfl | exact hs.rowRd 3 rfl | exact hs.rowRd 4 rfl | exact hs.rowRd 5 rfl | exact hs.rowRd 6 rfl | exact hs.rowRd 7 rfl | exact hs.rowRd 8 rfl | exact hs.rowRd 9 rfl | exact hs.rowRd 10 rfl | exact hs.rowRd 11 rfl | exact hs.rowRd 12 rfl | exact hs.rowRd 13 rfl | exact Rd.st (by assumption) hs)) rfl rfl ?_
    refine S_val rfl rfl (Y_ixg (und rfl) (siz rfl) rfl rfl (nat_cast _) (Nat.le_of_ble_eq_true rfl)) ?_
    refine S_storePI 1 (siz rfl) rfl rfl rfl (dl_length _ _ _) (by rw [w3_length]; omega) (w3_s0 _ _ _ _) rfl ?_
    refine S_nil ?_
    refine X_blk ?_
    refine X_seq ?_
    refine T_region ?_
    refine S_val rfl rfl (Y_addN rfl rfl (nat_cast _) (nat_lit' _) (Nat.le_of_ble_eq_true rfl)) ?_
    refine S_val rfl rfl (Y_move rfl) ?_
    refine S_nil ?_
    refine X_loop ?_
    exact ⟨(1, l 0, 0, 0), by simp, by dsimp only; omega, (by repeat (first | exact Env.sub_nil _ | (apply Env.sub_cons; rfl))), Emb.idx [0, 1] rfl rfl⟩
  · dsimp only
    refine T_seq ?_
    refine T_region ?_
    refine S_val rfl rfl (Y_lss_t rfl rfl (by decide)) ?_
    refine S_nil ?_
    refine X_seq ?_
    refine T_seq ?_
    refine T_cond_true rfl ?_
    refine T_skip ?_
    refine X_seq ?_
    refine T_seq ?_
    refine T_block ?_
    refine T_seq ?_
    refine T_region ?_
    refine S_val rfl rfl (Y_move rfl) ?_
    refine S_val rfl rfl (Y_assign rfl) ?_
    refine S_nil ?_
    refine X_seq ?_
    refine T_region ?_
    refine S_val rfl rfl (Y_move rfl) ?_
    refine S_val rfl rfl (Y_move rfl) ?_
    refine S_val rfl rfl (Y_move rfl) ?_
    refine S_val rfl rfl (Y_mulN rfl rfl (nat_lit' _) (nat_cast _) (Nat.le_of_ble_eq_true rfl)) ?_
    refine S_val rfl rfl (Y_conv (und rfl) (und rfl) rfl (wu64 (by omega) (by omega))) ?_
    refine S_callR _ rfl rfl (bod rfl) (fun w hs => pt 1 (by omega) _ (by first | exact hs.rowRd 0 rfl | exact hs.rowRd 1 rfl | exact hs.rowRd 2 rfl | exact hs.rowRd 3 rfl | exact hs.rowRd 4 rfl | exact hs.rowRd 5 rfl | exact hs.rowRd 6 rfl | exact hs.rowRd 7 rfl | exact hs.rowRd 8 rfl | exact hs.rowRd 9 rfl | exact hs.rowRd 10 rfl | exact hs.rowRd 11 rfl | exact hs.rowRd 12 rfl | exact hs.rowRd 13 rfl | exact Rd.st (by assumption) hs)) rfl rfl fun _ => ?_
    skip
    refine S_callV rfl rfl (bod rfl) (fun w hs => fr 1 _ _ (by first | exact hs.rowRd 0 rfl | exact hs.rowRd 1 rfl | exact hs.rowRd 2 rfl | exact hs.rowRd 3 rfl | exact hs.rowRd 4 rfl | exact hs.rowRd 5 rfl | exact hs.rowRd 6 rfl | exact hs.rowRd 7 rfl | exact hs.rowRd 8 rfl | exact hs.rowRd 9 rfl | exact hs.rowRd 10 rfl | exact hs.rowRd 11 rfl | exact hs.rowRd 12 rfl | exact hs.rowRd 13 rfl | exact Rd.st (by assumption) hs)) rfl rfl ?_
    refine S_val rfl rfl (Y_ixg (und rfl) (siz rfl) rfl rfl (nat_cast _) (Nat.le_of_ble_eq_true rfl)) ?_
    refine S_storePI 1 (siz rfl) rfl rfl rfl (dl_length _ _ _) (by rw [w3_length]; omega) (w3_s1 _ _ _ _) rfl ?_
    refine S_nil ?_
    refine X_blk ?_
    refine X_seq ?_
    refine T_region ?_
    refine S_val rfl rfl (Y_addN rfl rfl (nat_cast _) (nat_lit' _) (Nat.le_of_ble_eq_true rfl)) ?_
    refine S_val rfl rfl (Y_move rfl) ?_
    refine S_nil ?_
    refine X_loop ?_
    exact ⟨(2, l 0, l 1, 0), by simp, by dsimp only; omega, (by repeat (first | exact Env.sub_nil _ | (apply Env.sub_cons; rfl))), Emb.idx [0, 1] rfl rfl⟩
  · dsimp only
    refine T_seq ?_
    refine T_region ?_
    refine S_val rfl rfl (Y_lss_t rfl rfl (by decide)) ?_
    refine S_nil ?_
    refine X_seq ?_
    refine T_seq ?_
    refine T_cond_true rfl ?_
    refine T_skip ?_
    refine X_seq ?_
    refine T_seq ?_
    refine T_block ?_
    refine T_seq ?_
    refine T_region ?_
    refine S_val rfl rfl (Y_move rfl) ?_
    refine S_val rfl rfl (Y_assign rfl) ?_
    refine S_nil ?_
    refine X_seq ?_
    refine T_region ?_
    refine S_val rfl rfl (Y_move rfl) ?_
    refine S_val rfl rfl (Y_move rfl) ?_
    refine S_val rfl rfl (Y_move rfl) ?_
    refine S_val rfl rfl (Y_mulN rfl rfl (nat_lit' _) (nat_cast _) (Nat.le_of_ble_eq_true rfl)) ?_
    refine S_val rfl rfl (Y_conv (und rfl) (und rfl) rfl (wu64 (by omega) (by omega))) ?_
    refine S_callR _ rfl rfl (bod rfl) (fun w hs => pt 2 (by omega) _ (by first | exact hs.rowRd 0 rfl | exact hs.rowRd 1 rfl | exact hs.rowRd 2 rfl | exact hs.rowRd 3 rfl | exact hs.rowRd 4 rfl | exact hs.rowRd 5 rfl | exact hs.rowRd 6 rfl | exact hs.rowRd 7 rfl | exact hs.rowRd 8 rfl | exact hs.rowRd 9 rfl | exact hs.rowRd 10 rfl | exact hs.rowRd 11 rfl | exact hs.rowRd 12 rfl | exact hs.rowRd 13 rfl | exact Rd.st (by assumption) hs)) rfl rfl fun _ => ?_
    skip
    refine S_callV rfl rfl (bod rfl) (fun w hs => fr 2 _ _ (by first | exact hs.rowRd 0 rfl | exact hs.rowRd 1 rfl | exact hs.rowRd 2 rfl | exact hs.rowRd 3 rfl | exact hs.rowRd 4 rfl | exact hs.rowRd 5 rfl | exact hs.rowRd 6 rfl | exact hs.rowRd 7 rfl | exact hs.rowRd 8 rfl | exact hs.rowRd 9 rfl | exact hs.rowRd 10 rfl | exact hs.rowRd 11 rfl | exact hs.rowRd 12 rfl | exact hs.rowRd 13 rfl | exact Rd.st (by assumption) hs)) rfl rfl ?_
    refine S_val rfl rfl (Y_ixg (und rfl) (siz rfl) rfl rfl (nat_cast _) (Nat.le_of_ble_eq_true rfl)) ?_
    refine S_storePI 1 (siz rfl) rfl rfl rfl (dl_length _ _ _) (by rw [w3_length]; omega) (w3_s2 _ _ _ _) rfl ?_
    refine S_nil ?_
    refine X_blk ?_
    refine X_seq ?_
    refine T_region ?_
    refine S_val rfl rfl (Y_addN rfl rfl (nat_cast _) (nat_lit' _) (Nat.le_of_ble_eq_true rfl)) ?_
    refine S_val rfl rfl (Y_move rfl) ?_
    refine S_nil ?_
    refine X_loop ?_
    exact ⟨(3, l 0, l 1, l 2), by simp, by dsimp only; omega, (by repeat (first | exact Env.sub_nil _ | (apply Env.sub_cons; rfl))), Emb.idx [0, 1] rfl rfl⟩
  · dsimp only
    have hl : (w3 (l 0) (l 1) (l 2)).length = 12 := w3_length _ _ _
    have hl2 : (List.replicate 12 (0 : Int)).length = 12 := List.length_replicate
    refine T_seq ?_
    refine T_region ?_
    refine S_val rfl rfl (Y_lss_f rfl rfl (by decide)) ?_
    refine S_nil ?_
    refine X_seq ?_
    refine T_seq ?_
    refine T_cond_false rfl ?_
    refine T_exit ?_
    refine X_seq_exit ?_
    refine X_loop_exit ?_
    refine X_blk_hit rfl ?_
    refine X_seq ?_
    refine T_seq ?_
    refine T_region ?_
    refine S_val rfl rfl (Y_loadAI 1 (und rfl) rfl rfl rfl (siz rfl) rfl) ?_
    refine S_storeAI 0 (siz rfl) rfl rfl rfl rfl rfl rfl ?_
    refine S_nil ?_
    refine X_seq ?_
    refine T_ret ?_
    ((first | refine X_fin_ret ?_ | refine X_fin ?_); exact ⟨[_], [], .cons (.agg 0 rfl (und rfl) rfl rfl (siz rfl)) .nil, Emb.nil _, rfl, rfl⟩)
end Go.Proofs.YtchoncjikdfbgaaDoor
