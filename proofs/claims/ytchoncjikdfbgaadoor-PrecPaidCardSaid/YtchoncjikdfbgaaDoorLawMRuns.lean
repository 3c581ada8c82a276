import Derived.Test.YtchoncjikdfbgaaDoorMod5
/- The law ModexpRuns hands back true. -/
namespace Go.Proofs.YtchoncjikdfbgaaDoor
open Go.RowKit
set_option maxRecDepth 20000
set_option maxHeartbeats 4000000

/-- A part of an input. -/
def inN (n x at_ k : Nat) : Nat := qN n x (at_ + k) % 256 ^ k
theorem inN_lt (n x at_ k : Nat) : inN n x at_ k < 256 ^ k := Nat.mod_lt _ (Nat.pow_pos (by omega))
theorem inN_bel (n x at_ k : Nat) : bel k (qN n x (at_ + k)) = bel k (inN n x at_ k) := by unfold inN; rw [bel_mod]
def runN (n x : Nat) : Nat := powN (inN n x 96 (lenN n x 0)) (inN n x (96 + lenN n x 0) (lenN n x 1)) (inN n x (96 + lenN n x 0 + lenN n x 1) (lenN n x 2))
theorem mrun_nil (n x : Nat) (hx : x < 256 ^ n) (hn : n ≤ 1000000) (v : Value) (w : World) (hr : Rd w v .u8 (bel n x)) (h : lenN n x 0 = 0 ∧ lenN n x 2 = 0) :
    Fn Tryd.prog 19 #[v] w fun u N => u = .tuple #[.slice none 0 0, .int .i64 0] ∧ N = [] := by
  have lg := fun w h => mlengths_any n x hx hn v w h
  have w3l := w3_length (lenN n x 0) (lenN n x 1) (lenN n x 2)
  have e1 := dl4_eq h.1
  have e2 := dl4_eq h.2
  clear h
  generalize lenN n x 0 = b at *
  generalize lenN n x 1 = e at *
  generalize lenN n x 2 = m at *
  refine Fn_of (args := [v]) Tryd.func19 rfl Tryd.ntmps19 Tryd.results19 (by simp) ?_
  refine T_seq ?_
  refine T_region ?_
  refine S_val rfl rfl (Y_assign rfl) ?_
  refine S_val rfl rfl (Y_assign rfl) ?_
  refine S_nil ?_
  refine X_seq ?_
  refine T_seq ?_
  refine T_region ?_
  refine S_val rfl rfl (Y_move rfl) ?_
  refine S_callV rfl rfl (bod rfl) (fun w hs => lg _ (by first | exact hs.rowRd 0 rfl | exact hs.rowRd 1 rfl | exact hs.rowRd 2 rfl | exact hs.rowRd 3 rfl | exact hs.rowRd 4 rfl | exact hs.rowRd 5 rfl | exact hs.rowRd 6 rfl | exact hs.rowRd 7 rfl | exact hs.rowRd 8 rfl | exact hs.rowRd 9 rfl | exact hs.rowRd 10 rfl | exact hs.rowRd 11 rfl | exact hs.rowRd 12 rfl | exact hs.rowRd 13 rfl | exact Rd.st (by assumption) hs)) rfl rfl ?_
  refine S_allocA (zer rfl) rfl rfl fun _ => ?_
  refine S_storeAI 0 (siz rfl) rfl rfl rfl rfl rfl rfl ?_
  refine S_nil ?_
  refine X_seq ?_
  refine T_seq ?_
  refine T_seq ?_
  refine T_region ?_
  refine S_val rfl rfl (Y_ixg (und rfl) (siz rfl) rfl rfl (nat_lit' _) (Nat.le_of_ble_eq_true rfl)) ?_
  refine S_val rfl rfl (Y_loadPX 0 (und rfl) rfl rfl rfl (siz rfl) (Nat.le_of_ble_eq_true rfl) (w3_0 _ _ _)) ?_
  refine S_val rfl rfl (Y_build (und rfl) (siz rfl) (zer rfl) rfl rfl) ?_
  refine S_val rfl rfl (Y_eqlA_t (eqg rfl) (und rfl) (und rfl) (siz rfl) rfl rfl (dl_length _ _ _) (by assumption)) ?_
  refine S_val rfl rfl (Y_move rfl) ?_
  refine S_val rfl rfl (Y_ixg (und rfl) (siz rfl) rfl rfl (nat_lit' _) (Nat.le_of_ble_eq_true rfl)) ?_
  refine S_val rfl rfl (Y_loadPX 0 (und rfl) rfl rfl rfl (siz rfl) (Nat.le_of_ble_eq_true rfl) (w3_2 _ _ _)) ?_
  refine S_val rfl rfl (Y_build (und rfl) (siz rfl) (zer rfl) rfl rfl) ?_
  refine S_val rfl rfl (Y_eqlA_t (eqg rfl) (und rfl) (und rfl) (siz rfl) rfl rfl (dl_length _ _ _) (by assumption)) ?_
  refine S_val rfl rfl (Y_pick_t rfl rfl) ?_
  refine S_nil ?_
  refine X_seq ?_
  refine T_cond_true rfl ?_
  refine T_seq ?_
  refine T_region ?_
  refine S_val rfl rfl (Y_assign rfl) ?_
  refine S_val rfl rfl (Y_assign rfl) ?_
  refine S_nil ?_
  refine X_seq ?_
  refine T_ret ?_
  refine X_seq_ret ?_
  ((first | refine X_fin_ret ?_ | refine X_fin ?_); exact ⟨[_, _], [], .cons (.tmp rfl) (.cons (.tmp rfl) .nil), Emb.nil _, rfl, rfl⟩)
theorem ne_of_len {b m : Nat} (hb : b < 2 ^ 256) (hm : m < 2 ^ 256) (h : ¬ (b = 0 ∧ m = 0)) : ¬ (dl 18446744073709551616 4 b = fillI (List.replicate 4 0) []) ∨ (dl 18446744073709551616 4 b = fillI (List.replicate 4 0) [] ∧ ¬ (dl 18446744073709551616 4 m = fillI (List.replicate 4 0) [])) := by
  by_cases h1 : b = 0
  · exact .inr ⟨dl4_eq h1, dl4_ne hm fun h2 => h ⟨h1, h2⟩⟩
  · exact .inl (dl4_ne hb h1)
theorem mrun_long (n x : Nat) (hx : x < 256 ^ n) (hn : n ≤ 1000000) (v : Value) (w : World) (hr : Rd w v .u8 (bel n x)) (h : ¬ (lenN n x 0 = 0 ∧ lenN n x 2 = 0)) (hl : 64 < lenN n x 0 ∨ 64 < lenN n x 1 ∨ 64 < lenN n x 2) :
    Fn Tryd.prog 19 #[v] w fun u N => u = .tuple #[.slice none 0 0, .int .i64 4] ∧ N = [] := by
  have lg := fun w h => mlengths_any n x hx hn v w h
  have w3l := w3_length (lenN n x 0) (lenN n x 1) (lenN n x 2)
  have hne := ne_of_len (lenN_lt n x 0) (lenN_lt n x 2) h
  have sb := small_any _ (lenN_lt n x 0)
  have se := small_any _ (lenN_lt n x 1)
  have sm := small_any _ (lenN_lt n x 2)
  clear h
  generalize lenN n x 0 = b at *
  generalize lenN n x 1 = e at *
  generalize lenN n x 2 = m at *
  have st : ∀ (z : Nat), (∀ w, Fn Tryd.prog 24 #[W z] w fun v N => v = .tuple #[.int .u64 ((if z < 18446744073709551616 then z else 0 : Nat) : Int), .bool (decide (z < 18446744073709551616))] ∧ N = []) → z ≤ 64 → ∀ w, Fn Tryd.prog 24 #[W z] w fun v N => v = .tuple #[.int .u64 z, .bool true] ∧ N = [] := fun z h hz w => by
    have := h w
    rwa [if_pos (by omega), decide_eq_true (by omega)] at this
  have st2 : ∀ (z : Nat), (∀ w, Fn Tryd.prog 24 #[W z] w fun v N => v = .tuple #[.int .u64 ((if z < 18446744073709551616 then z else 0 : Nat) : Int), .bool (decide (z < 18446744073709551616))] ∧ N = []) → 64 < z → (64 < z ∧ ∀ w, Fn Tryd.prog 24 #[W z] w fun v N => v = .tuple #[.int .u64 z, .bool true] ∧ N = []) ∨ ∀ w, Fn Tryd.prog 24 #[W z] w fun v N => v = .tuple #[.int .u64 (0 : Nat), .bool false] ∧ N = [] := fun z h hz => by
    by_cases h2 : z < 18446744073709551616
    · exact .inl ⟨hz, fun w => by have := h w; rwa [if_pos h2, decide_eq_true h2] at this⟩
    · exact .inr fun w => by have := h w; rwa [if_neg h2, decide_eq_false h2] at this
  rcases (show 64 < b ∨ (b ≤ 64 ∧ 64 < e) ∨ (b ≤ 64 ∧ e ≤ 64 ∧ 64 < m) by omega) with h0 | ⟨h0, h1⟩ | ⟨h0, h1, h2⟩
  · rcases hne with n1 | ⟨n1, n2⟩ <;> rcases st2 b sb h0 with ⟨g0, s0⟩ | s0 <;> clear hl sb se sm st st2 h0
    all_goals
      refine Fn_of (args := [v]) Tryd.func19 rfl Tryd.ntmps19 Tryd.results19 (by simp) ?_
      refine T_seq ?_
      refine T_region ?_
      refine S_val rfl rfl (Y_assign rfl) ?_
      refine S_val rfl rfl (Y_assign rfl) ?_
      refine S_nil ?_
      refine X_seq ?_
      refine T_seq ?_
      refine T_region ?_
      refine S_val rfl rfl (Y_move rfl) ?_
      refine S_callV rfl rfl (bod rfl) (fun w hs => lg _ (by first | exact hs.rowRd 0 rfl | exact hs.rowRd 1 rfl | exact hs.rowRd 2 rfl | exact hs.rowRd 3 rfl | exact hs.rowRd 4 rfl | exact hs.rowRd 5 rfl | exact hs.rowRd 6 rfl | exact hs.rowRd 7 rfl | exact hs.rowRd 8 rfl | exact hs.rowRd 9 rfl | exact hs.rowRd 10 rfl | exact hs.rowRd 11 rfl | exact hs.rowRd 12 rfl | exact hs.rowRd 13 rfl | exact Rd.st (by assumption) hs)) rfl rfl ?_
      first | (refine S_allocA (zer rfl) rfl rfl fun _ => ?_; refine S_storeAI 0 (siz rfl) rfl rfl rfl rfl rfl rfl ?_; refine S_nil ?_; refine X_seq ?_; refine T_seq ?_; refine T_seq ?_; refine T_region ?_; refine S_val rfl rfl (Y_ixg (und rfl) (siz rfl) rfl rfl (nat_lit' _) (Nat.le_of_ble_eq_true rfl)) ?_; refine S_val rfl rfl (Y_loadPX 0 (und rfl) rfl rfl rfl (siz rfl) (Nat.le_of_ble_eq_true rfl) (w3_0 _ _ _)) ?_; refine S_val rfl rfl (Y_build (und rfl) (siz rfl) (zer rfl) rfl rfl) ?_; refine S_val rfl rfl (Y_eqlA_f (eqg rfl) (und rfl) (und rfl) (siz rfl) rfl rfl (dl_length _ _ _) rfl (by assumption)) ?_; refine S_val rfl rfl (Y_move rfl) ?_; refine S_skip rfl rfl ?_; refine S_skip rfl rfl ?_; refine S_skip rfl rfl ?_; refine S_skip rfl rfl ?_; refine S_val rfl rfl (Y_pick_f rfl rfl) ?_; refine S_nil ?_; refine X_seq ?_; refine T_cond_false rfl ?_; refine T_skip ?_; refine X_seq ?_; refine T_seq ?_; refine T_region ?_; refine S_allocA (zer rfl) rfl rfl fun _ => ?_; refine S_nil ?_; refine X_seq ?_; refine T_seq ?_; refine T_seq ?_; refine T_region ?_; refine S_val rfl rfl (Y_loadAI 0 (und rfl) rfl rfl rfl (siz rfl) rfl) ?_; refine S_val rfl rfl (Y_move rfl) ?_; refine S_nil ?_; refine X_seq ?_; refine T_block ?_) | (refine S_allocA (zer rfl) rfl rfl fun _ => ?_; refine S_storeAI 0 (siz rfl) rfl rfl rfl rfl rfl rfl ?_; refine S_nil ?_; refine X_seq ?_; refine T_seq ?_; refine T_seq ?_; refine T_region ?_; refine S_val rfl rfl (Y_ixg (und rfl) (siz rfl) rfl rfl (nat_lit' _) (Nat.le_of_ble_eq_true rfl)) ?_; refine S_val rfl rfl (Y_loadPX 0 (und rfl) rfl rfl rfl (siz rfl) (Nat.le_of_ble_eq_true rfl) (w3_0 _ _ _)) ?_; refine S_val rfl rfl (Y_build (und rfl) (siz rfl) (zer rfl) rfl rfl) ?_; refine S_val rfl rfl (Y_eqlA_t (eqg rfl) (und rfl) (und rfl) (siz rfl) rfl rfl (dl_length _ _ _) (by assumption)) ?_; refine S_val rfl rfl (Y_move rfl) ?_; refine S_val rfl rfl (Y_ixg (und rfl) (siz rfl) rfl rfl (nat_lit' _) (Nat.le_of_ble_eq_true rfl)) ?_; refine S_val rfl rfl (Y_loadPX 0 (und rfl) rfl rfl rfl (siz rfl) (Nat.le_of_ble_eq_true rfl) (w3_2 _ _ _)) ?_; refine S_val rfl rfl (Y_build (und rfl) (siz rfl) (zer rfl) rfl rfl) ?_; refine S_val rfl rfl (Y_eqlA_f (eqg rfl) (und rfl) (und rfl) (siz rfl) rfl rfl (dl_length _ _ _) rfl (by assumption)) ?_; refine S_val rfl rfl (Y_pick_t rfl rfl) ?_; refine S_nil ?_; refine X_seq ?_; refine T_cond_false rfl ?_; refine T_skip ?_; refine X_seq ?_; refine T_seq ?_; refine T_region ?_; refine S_allocA (zer rfl) rfl rfl fun _ => ?_; refine S_nil ?_; refine X_seq ?_; refine T_seq ?_; refine T_seq ?_; refine T_region ?_; refine S_val rfl rfl (Y_loadAI 0 (und rfl) rfl rfl rfl (siz rfl) rfl) ?_; refine S_val rfl rfl (Y_move rfl) ?_; refine S_nil ?_; refine X_seq ?_; refine T_block ?_)
      rename_i b4 b5
      refine T_loopE (α := Nat × List Int) (fun a => a = (0, [0, 0, 0]))
        (fun a => [(0, v), (5, .pointer (some ⟨b5, 0, none⟩)), (24, .agg (ints .u64 (w3 b e m))), (25, .int .i64 a.1)])
        (fun a => [blk b5 (.cells (ints .u64 a.2) 70 (0, 0))])
        (fun a => 3 - a.1) (0, [0, 0, 0]) (rfl) (by repeat (first | exact Env.sub_nil _ | (apply Env.sub_cons; rfl))) (Emb.one 1 rfl) ?_
      rintro _ rfl
      refine T_seq ?_
      refine T_region ?_
      refine S_val rfl rfl (Y_lss_t rfl rfl (by decide)) ?_
      refine S_nil ?_
      refine X_seq ?_
      refine T_seq ?_
      refine T_cond_true rfl ?_
      refine T_skip ?_
      refine X_seq ?_
      refine T_seq ?_
      refine T_block ?_
      refine T_seq ?_
      refine T_region ?_
      refine S_val rfl rfl (Y_move rfl) ?_
      refine S_val rfl rfl (Y_indexP (und rfl) (siz rfl) (und rfl) rfl rfl rfl (nat_cast _) (Nat.le_of_ble_eq_true rfl) (w3_0 _ _ _)) ?_
      refine S_allocA (zer rfl) rfl rfl fun _ => ?_
      refine S_val rfl rfl (Y_assign rfl) ?_
      refine S_storeAI 1 (siz rfl) rfl rfl rfl rfl (dl_length _ _ _) rfl ?_
      refine S_nil ?_
      refine X_seq ?_
      refine T_seq ?_
      refine T_region ?_
      refine S_val rfl rfl (Y_loadAI 1 (und rfl) rfl rfl rfl (siz rfl) (dl_length _ _ _)) ?_
      refine S_callV rfl rfl (bod rfl) (fun w hs => s0 _) rfl rfl ?_
      first | (refine S_val rfl rfl (Y_move rfl) ?_; refine S_val rfl rfl (Y_extract rfl rfl) ?_; refine S_val rfl rfl (Y_extract rfl rfl) ?_; refine S_val rfl rfl (Y_assign rfl) ?_; refine S_val rfl rfl (Y_assign rfl) ?_; refine S_nil ?_; refine X_seq ?_; refine T_seq ?_; refine T_seq ?_; refine T_region ?_; refine S_val rfl rfl (Y_move rfl) ?_; refine S_val rfl rfl (Y_not rfl rfl) ?_; refine S_val rfl rfl (Y_move rfl) ?_; refine S_val rfl rfl (Y_move rfl) ?_; refine S_val rfl rfl (Y_gtr_t rfl rfl (by omega)) ?_; refine S_val rfl rfl (Y_pick_f rfl rfl) ?_; refine S_nil ?_; refine X_seq ?_; refine T_cond_true rfl ?_; refine T_seq ?_; refine T_region ?_; refine S_val rfl rfl (Y_assign rfl) ?_; refine S_val rfl rfl (Y_assign rfl) ?_; refine S_nil ?_; refine X_seq ?_; refine T_ret ?_; refine X_seq_ret ?_; refine X_blk_ret ?_; refine X_seq_ret ?_; refine X_loop_ret ?_; refine X_blk_ret ?_; refine X_seq_ret ?_) | (refine S_val rfl rfl (Y_move rfl) ?_; refine S_val rfl rfl (Y_extract rfl rfl) ?_; refine S_val rfl rfl (Y_extract rfl rfl) ?_; refine S_val rfl rfl (Y_assign rfl) ?_; refine S_val rfl rfl (Y_assign rfl) ?_; refine S_nil ?_; refine X_seq ?_; refine T_seq ?_; refine T_seq ?_; refine T_region ?_; refine S_val rfl rfl (Y_move rfl) ?_; refine S_val rfl rfl (Y_not rfl rfl) ?_; refine S_val rfl rfl (Y_move rfl) ?_; refine S_skip rfl rfl ?_; refine S_skip rfl rfl ?_; refine S_val rfl rfl (Y_pick_t rfl rfl) ?_; refine S_nil ?_; refine X_seq ?_; refine T_cond_true rfl ?_; refine T_seq ?_; refine T_region ?_; refine S_val rfl rfl (Y_assign rfl) ?_; refine S_val rfl rfl (Y_assign rfl) ?_; refine S_nil ?_; refine X_seq ?_; refine T_ret ?_; refine X_seq_ret ?_; refine X_blk_ret ?_; refine X_seq_ret ?_; refine X_loop_ret ?_; refine X_blk_ret ?_; refine X_seq_ret ?_)
      ((first | refine X_fin_ret ?_ | refine X_fin ?_); exact ⟨[_, _], [], .cons (.tmp rfl) (.cons (.tmp rfl) .nil), Emb.nil _, rfl, rfl⟩)
  · have s0 := st b sb h0
    rcases hne with n1 | ⟨n1, n2⟩ <;> rcases st2 e se h1 with ⟨g1, s1⟩ | s1 <;> clear hl sb se sm st st2 h1
    all_goals
      refine Fn_of (args := [v]) Tryd.func19 rfl Tryd.ntmps19 Tryd.results19 (by simp) ?_
      refine T_seq ?_
      refine T_region ?_
      refine S_val rfl rfl (Y_assign rfl) ?_
      refine S_val rfl rfl (Y_assign rfl) ?_
      refine S_nil ?_
      refine X_seq ?_
      refine T_seq ?_
      refine T_region ?_
      refine S_val rfl rfl (Y_move rfl) ?_
      refine S_callV rfl rfl (bod rfl) (fun w hs => lg _ (by first | exact hs.rowRd 0 rfl | exact hs.rowRd 1 rfl | exact hs.rowRd 2 rfl | exact hs.rowRd 3 rfl | exact hs.rowRd 4 rfl | exact hs.rowRd 5 rfl | exact hs.rowRd 6 rfl | exact hs.rowRd 7 rfl | exact hs.rowRd 8 rfl | exact hs.rowRd 9 rfl | exact hs.rowRd 10 rfl | exact hs.rowRd 11 rfl | exact hs.rowRd 12 rfl | exact hs.rowRd 13 rfl | exact Rd.st (by assumption) hs)) rfl rfl ?_
      first | (refine S_allocA (zer rfl) rfl rfl fun _ => ?_; refine S_storeAI 0 (siz rfl) rfl rfl rfl rfl rfl rfl ?_; refine S_nil ?_; refine X_seq ?_; refine T_seq ?_; refine T_seq ?_; refine T_region ?_; refine S_val rfl rfl (Y_ixg (und rfl) (siz rfl) rfl rfl (nat_lit' _) (Nat.le_of_ble_eq_true rfl)) ?_; refine S_val rfl rfl (Y_loadPX 0 (und rfl) rfl rfl rfl (siz rfl) (Nat.le_of_ble_eq_true rfl) (w3_0 _ _ _)) ?_; refine S_val rfl rfl (Y_build (und rfl) (siz rfl) (zer rfl) rfl rfl) ?_; refine S_val rfl rfl (Y_eqlA_f (eqg rfl) (und rfl) (und rfl) (siz rfl) rfl rfl (dl_length _ _ _) rfl (by assumption)) ?_; refine S_val rfl rfl (Y_move rfl) ?_; refine S_skip rfl rfl ?_; refine S_skip rfl rfl ?_; refine S_skip rfl rfl ?_; refine S_skip rfl rfl ?_; refine S_val rfl rfl (Y_pick_f rfl rfl) ?_; refine S_nil ?_; refine X_seq ?_; refine T_cond_false rfl ?_; refine T_skip ?_; refine X_seq ?_; refine T_seq ?_; refine T_region ?_; refine S_allocA (zer rfl) rfl rfl fun _ => ?_; refine S_nil ?_; refine X_seq ?_; refine T_seq ?_; refine T_seq ?_; refine T_region ?_; refine S_val rfl rfl (Y_loadAI 0 (und rfl) rfl rfl rfl (siz rfl) rfl) ?_; refine S_val rfl rfl (Y_move rfl) ?_; refine S_nil ?_; refine X_seq ?_; refine T_block ?_) | (refine S_allocA (zer rfl) rfl rfl fun _ => ?_; refine S_storeAI 0 (siz rfl) rfl rfl rfl rfl rfl rfl ?_; refine S_nil ?_; refine X_seq ?_; refine T_seq ?_; refine T_seq ?_; refine T_region ?_; refine S_val rfl rfl (Y_ixg (und rfl) (siz rfl) rfl rfl (nat_lit' _) (Nat.le_of_ble_eq_true rfl)) ?_; refine S_val rfl rfl (Y_loadPX 0 (und rfl) rfl rfl rfl (siz rfl) (Nat.le_of_ble_eq_true rfl) (w3_0 _ _ _)) ?_; refine S_val rfl rfl (Y_build (und rfl) (siz rfl) (zer rfl) rfl rfl) ?_; refine S_val rfl rfl (Y_eqlA_t (eqg rfl) (und rfl) (und rfl) (siz rfl) rfl rfl (dl_length _ _ _) (by assumption)) ?_; refine S_val rfl rfl (Y_move rfl) ?_; refine S_val rfl rfl (Y_ixg (und rfl) (siz rfl) rfl rfl (nat_lit' _) (Nat.le_of_ble_eq_true rfl)) ?_; refine S_val rfl rfl (Y_loadPX 0 (und rfl) rfl rfl rfl (siz rfl) (Nat.le_of_ble_eq_true rfl) (w3_2 _ _ _)) ?_; refine S_val rfl rfl (Y_build (und rfl) (siz rfl) (zer rfl) rfl rfl) ?_; refine S_val rfl rfl (Y_eqlA_f (eqg rfl) (und rfl) (und rfl) (siz rfl) rfl rfl (dl_length _ _ _) rfl (by assumption)) ?_; refine S_val rfl rfl (Y_pick_t rfl rfl) ?_; refine S_nil ?_; refine X_seq ?_; refine T_cond_false rfl ?_; refine T_skip ?_; refine X_seq ?_; refine T_seq ?_; refine T_region ?_; refine S_allocA (zer rfl) rfl rfl fun _ => ?_; refine S_nil ?_; refine X_seq ?_; refine T_seq ?_; refine T_seq ?_; refine T_region ?_; refine S_val rfl rfl (Y_loadAI 0 (und rfl) rfl rfl rfl (siz rfl) rfl) ?_; refine S_val rfl rfl (Y_move rfl) ?_; refine S_nil ?_; refine X_seq ?_; refine T_block ?_)
      rename_i b4 b5
      refine T_loopE (α := Nat × List Int) (fun a => a = (0, [0, 0, 0]) ∨ a = (1, [(b : Int), 0, 0]))
        (fun a => [(0, v), (5, .pointer (some ⟨b5, 0, none⟩)), (24, .agg (ints .u64 (w3 b e m))), (25, .int .i64 a.1)])
        (fun a => [blk b5 (.cells (ints .u64 a.2) 70 (0, 0))])
        (fun a => 3 - a.1) (0, [0, 0, 0]) (.inl rfl) (by repeat (first | exact Env.sub_nil _ | (apply Env.sub_cons; rfl))) (Emb.one 1 rfl) ?_
      rintro _ (rfl | rfl)
      · refine T_seq ?_
        refine T_region ?_
        refine S_val rfl rfl (Y_lss_t rfl rfl (by decide)) ?_
        refine S_nil ?_
        refine X_seq ?_
        refine T_seq ?_
        refine T_cond_true rfl ?_
        refine T_skip ?_
        refine X_seq ?_
        refine T_seq ?_
        refine T_block ?_
        refine T_seq ?_
        refine T_region ?_
        refine S_val rfl rfl (Y_move rfl) ?_
        refine S_val rfl rfl (Y_indexP (und rfl) (siz rfl) (und rfl) rfl rfl rfl (nat_cast _) (Nat.le_of_ble_eq_true rfl) (w3_0 _ _ _)) ?_
        refine S_allocA (zer rfl) rfl rfl fun _ => ?_
        refine S_val rfl rfl (Y_assign rfl) ?_
        refine S_storeAI 1 (siz rfl) rfl rfl rfl rfl (dl_length _ _ _) rfl ?_
        refine S_nil ?_
        refine X_seq ?_
        refine T_seq ?_
        refine T_region ?_
        refine S_val rfl rfl (Y_loadAI 1 (und rfl) rfl rfl rfl (siz rfl) (dl_length _ _ _)) ?_
        refine S_callV rfl rfl (bod rfl) (fun w hs => s0 _) rfl rfl ?_
        refine S_val rfl rfl (Y_move rfl) ?_
        refine S_val rfl rfl (Y_extract rfl rfl) ?_
        refine S_val rfl rfl (Y_extract rfl rfl) ?_
        refine S_val rfl rfl (Y_assign rfl) ?_
        refine S_val rfl rfl (Y_assign rfl) ?_
        refine S_nil ?_
        refine X_seq ?_
        refine T_seq ?_
        refine T_seq ?_
        refine T_region ?_
        refine S_val rfl rfl (Y_move rfl) ?_
        refine S_val rfl rfl (Y_not rfl rfl) ?_
        refine S_val rfl rfl (Y_move rfl) ?_
        refine S_val rfl rfl (Y_move rfl) ?_
        refine S_val rfl rfl (Y_gtr_f rfl rfl (by omega)) ?_
        refine S_val rfl rfl (Y_pick_f rfl rfl) ?_
        refine S_nil ?_
        refine X_seq ?_
        refine T_cond_false rfl ?_
        refine T_skip ?_
        refine X_seq ?_
        refine T_region ?_
        refine S_val rfl rfl (Y_move rfl) ?_
        refine S_val rfl rfl (Y_move rfl) ?_
        refine S_val rfl rfl (Y_ixa (und rfl) (siz rfl) rfl rfl (nat_cast _) (Nat.le_of_ble_eq_true rfl)) ?_
        refine S_storeI 0 (siz rfl) rfl rfl rfl (Nat.le_of_ble_eq_true rfl) rfl rfl ?_
        refine S_nil ?_
        refine X_blk ?_
        refine X_seq ?_
        refine T_region ?_
        refine S_val rfl rfl (Y_addN rfl rfl (nat_cast _) (nat_lit' _) (Nat.le_of_ble_eq_true rfl)) ?_
        refine S_val rfl rfl (Y_move rfl) ?_
        refine S_nil ?_
        refine X_loop ?_
        exact ⟨(1, [(b : Int), 0, 0]), .inr rfl, by dsimp only; omega, (by repeat (first | exact Env.sub_nil _ | (apply Env.sub_cons; rfl))), Emb.one 0 rfl⟩
      · refine T_seq ?_
        refine T_region ?_
        refine S_val rfl rfl (Y_lss_t rfl rfl (by omega)) ?_
        refine S_nil ?_
        refine X_seq ?_
        refine T_seq ?_
        refine T_cond_true rfl ?_
        refine T_skip ?_
        refine X_seq ?_
        refine T_seq ?_
        refine T_block ?_
        refine T_seq ?_
        refine T_region ?_
        refine S_val rfl rfl (Y_move rfl) ?_
        refine S_val rfl rfl (Y_indexP (und rfl) (siz rfl) (und rfl) rfl rfl rfl (nat_cast _) (Nat.le_of_ble_eq_true rfl) (w3_1 _ _ _)) ?_
        refine S_allocA (zer rfl) rfl rfl fun _ => ?_
        refine S_val rfl rfl (Y_assign rfl) ?_
        refine S_storeAI 1 (siz rfl) rfl rfl rfl rfl (dl_length _ _ _) rfl ?_
        refine S_nil ?_
        refine X_seq ?_
        refine T_seq ?_
        refine T_region ?_
        refine S_val rfl rfl (Y_loadAI 1 (und rfl) rfl rfl rfl (siz rfl) (dl_length _ _ _)) ?_
        refine S_callV rfl rfl (bod rfl) (fun w hs => s1 _) rfl rfl ?_
        first | (refine S_val rfl rfl (Y_move rfl) ?_; refine S_val rfl rfl (Y_extract rfl rfl) ?_; refine S_val rfl rfl (Y_extract rfl rfl) ?_; refine S_val rfl rfl (Y_assign rfl) ?_; refine S_val rfl rfl (Y_assign rfl) ?_; refine S_nil ?_; refine X_seq ?_; refine T_seq ?_; refine T_seq ?_; refine T_region ?_; refine S_val rfl rfl (Y_move rfl) ?_; refine S_val rfl rfl (Y_not rfl rfl) ?_; refine S_val rfl rfl (Y_move rfl) ?_; refine S_val rfl rfl (Y_move rfl) ?_; refine S_val rfl rfl (Y_gtr_t rfl rfl (by omega)) ?_; refine S_val rfl rfl (Y_pick_f rfl rfl) ?_; refine S_nil ?_; refine X_seq ?_; refine T_cond_true rfl ?_; refine T_seq ?_; refine T_region ?_; refine S_val rfl rfl (Y_assign rfl) ?_; refine S_val rfl rfl (Y_assign rfl) ?_; refine S_nil ?_; refine X_seq ?_; refine T_ret ?_; refine X_seq_ret ?_; refine X_blk_ret ?_; refine X_seq_ret ?_; refine X_loop_ret ?_; refine X_blk_ret ?_; refine X_seq_ret ?_) | (refine S_val rfl rfl (Y_move rfl) ?_; refine S_val rfl rfl (Y_extract rfl rfl) ?_; refine S_val rfl rfl (Y_extract rfl rfl) ?_; refine S_val rfl rfl (Y_assign rfl) ?_; refine S_val rfl rfl (Y_assign rfl) ?_; refine S_nil ?_; refine X_seq ?_; refine T_seq ?_; refine T_seq ?_; refine T_region ?_; refine S_val rfl rfl (Y_move rfl) ?_; refine S_val rfl rfl (Y_not rfl rfl) ?_; refine S_val rfl rfl (Y_move rfl) ?_; refine S_skip rfl rfl ?_; refine S_skip rfl rfl ?_; refine S_val rfl rfl (Y_pick_t rfl rfl) ?_; refine S_nil ?_; refine X_seq ?_; refine T_cond_true rfl ?_; refine T_seq ?_; refine T_region ?_; refine S_val rfl rfl (Y_assign rfl) ?_; refine S_val rfl rfl (Y_assign rfl) ?_; refine S_nil ?_; refine X_seq ?_; refine T_ret ?_; refine X_seq_ret ?_; refine X_blk_ret ?_; refine X_seq_ret ?_; refine X_loop_ret ?_; refine X_blk_ret ?_; refine X_seq_ret ?_)
        ((first | refine X_fin_ret ?_ | refine X_fin ?_); exact ⟨[_, _], [], .cons (.tmp rfl) (.cons (.tmp rfl) .nil), Emb.nil _, rfl, rfl⟩)
  · have s0 := st b sb h0
    have s1 := st e se h1
    rcases hne with n1 | ⟨n1, n2⟩ <;> rcases st2 m sm h2 with ⟨g2, s2⟩ | s2 <;> clear hl sb se sm st st2 h2
    all_goals
      refine Fn_of (args := [v]) Tryd.func19 rfl Tryd.ntmps19 Tryd.results19 (by simp) ?_
      refine T_seq ?_
      refine T_region ?_
      refine S_val rfl rfl (Y_assign rfl) ?_
      refine S_val rfl rfl (Y_assign rfl) ?_
      refine S_nil ?_
      refine X_seq ?_
      refine T_seq ?_
      refine T_region ?_
      refine S_val rfl rfl (Y_move rfl) ?_
      refine S_callV rfl rfl (bod rfl) (fun w hs => lg _ (by first | exact hs.rowRd 0 rfl | exact hs.rowRd 1 rfl | exact hs.rowRd 2 rfl | exact hs.rowRd 3 rfl | exact hs.rowRd 4 rfl | exact hs.rowRd 5 rfl | exact hs.rowRd 6 rfl | exact hs.rowRd 7 rfl | exact hs.rowRd 8 rfl | exact hs.rowRd 9 rfl | exact hs.rowRd 10 rfl | exact hs.rowRd 11 rfl | exact hs.rowRd 12 rfl | exact hs.rowRd 13 rfl | exact Rd.st (by assumption) hs)) rfl rfl ?_
      first | (refine S_allocA (zer rfl) rfl rfl fun _ => ?_; refine S_storeAI 0 (siz rfl) rfl rfl rfl rfl rfl rfl ?_; refine S_nil ?_; refine X_seq ?_; refine T_seq ?_; refine T_seq ?_; refine T_region ?_; refine S_val rfl rfl (Y_ixg (und rfl) (siz rfl) rfl rfl (nat_lit' _) (Nat.le_of_ble_eq_true rfl)) ?_; refine S_val rfl rfl (Y_loadPX 0 (und rfl) rfl rfl rfl (siz rfl) (Nat.le_of_ble_eq_true rfl) (w3_0 _ _ _)) ?_; refine S_val rfl rfl (Y_build (und rfl) (siz rfl) (zer rfl) rfl rfl) ?_; refine S_val rfl rfl (Y_eqlA_f (eqg rfl) (und rfl) (und rfl) (siz rfl) rfl rfl (dl_length _ _ _) rfl (by assumption)) ?_; refine S_val rfl rfl (Y_move rfl) ?_; refine S_skip rfl rfl ?_; refine S_skip rfl rfl ?_; refine S_skip rfl rfl ?_; refine S_skip rfl rfl ?_; refine S_val rfl rfl (Y_pick_f rfl rfl) ?_; refine S_nil ?_; refine X_seq ?_; refine T_cond_false rfl ?_; refine T_skip ?_; refine X_seq ?_; refine T_seq ?_; refine T_region ?_; refine S_allocA (zer rfl) rfl rfl fun _ => ?_; refine S_nil ?_; refine X_seq ?_; refine T_seq ?_; refine T_seq ?_; refine T_region ?_; refine S_val rfl rfl (Y_loadAI 0 (und rfl) rfl rfl rfl (siz rfl) rfl) ?_; refine S_val rfl rfl (Y_move rfl) ?_; refine S_nil ?_; refine X_seq ?_; refine T_block ?_) | (refine S_allocA (zer rfl) rfl rfl fun _ => ?_; refine S_storeAI 0 (siz rfl) rfl rfl rfl rfl rfl rfl ?_; refine S_nil ?_; refine X_seq ?_; refine T_seq ?_; refine T_seq ?_; refine T_region ?_; refine S_val rfl rfl (Y_ixg (und rfl) (siz rfl) rfl rfl (nat_lit' _) (Nat.le_of_ble_eq_true rfl)) ?_; refine S_val rfl rfl (Y_loadPX 0 (und rfl) rfl rfl rfl (siz rfl) (Nat.le_of_ble_eq_true rfl) (w3_0 _ _ _)) ?_; refine S_val rfl rfl (Y_build (und rfl) (siz rfl) (zer rfl) rfl rfl) ?_; refine S_val rfl rfl (Y_eqlA_t (eqg rfl) (und rfl) (und rfl) (siz rfl) rfl rfl (dl_length _ _ _) (by assumption)) ?_; refine S_val rfl rfl (Y_move rfl) ?_; refine S_val rfl rfl (Y_ixg (und rfl) (siz rfl) rfl rfl (nat_lit' _) (Nat.le_of_ble_eq_true rfl)) ?_; refine S_val rfl rfl (Y_loadPX 0 (und rfl) rfl rfl rfl (siz rfl) (Nat.le_of_ble_eq_true rfl) (w3_2 _ _ _)) ?_; refine S_val rfl rfl (Y_build (und rfl) (siz rfl) (zer rfl) rfl rfl) ?_; refine S_val rfl rfl (Y_eqlA_f (eqg rfl) (und rfl) (und rfl) (siz rfl) rfl rfl (dl_length _ _ _) rfl (by assumption)) ?_; refine S_val rfl rfl (Y_pick_t rfl rfl) ?_; refine S_nil ?_; refine X_seq ?_; refine T_cond_false rfl ?_; refine T_skip ?_; refine X_seq ?_; refine T_seq ?_; refine T_region ?_; refine S_allocA (zer rfl) rfl rfl fun _ => ?_; refine S_nil ?_; refine X_seq ?_; refine T_seq ?_; refine T_seq ?_; refine T_region ?_; refine S_val rfl rfl (Y_loadAI 0 (und rfl) rfl rfl rfl (siz rfl) rfl) ?_; refine S_val rfl rfl (Y_move rfl) ?_; refine S_nil ?_; refine X_seq ?_; refine T_block ?_)
      rename_i b4 b5
      refine T_loopE (α := Nat × List Int) (fun a => a = (0, [0, 0, 0]) ∨ a = (1, [(b : Int), 0, 0]) ∨ a = (2, [(b : Int), (e : Int), 0]))
        (fun a => [(0, v), (5, .pointer (some ⟨b5, 0, none⟩)), (24, .agg (ints .u64 (w3 b e m))), (25, .int .i64 a.1)])
        (fun a => [blk b5 (.cells (ints .u64 a.2) 70 (0, 0))])
        (fun a => 3 - a.1) (0, [0, 0, 0]) (.inl rfl) (by repeat (first | exact Env.sub_nil _ | (apply Env.sub_cons; rfl))) (Emb.one 1 rfl) ?_
      rintro _ (rfl | rfl | rfl)
      · refine T_seq ?_
        refine T_region ?_
        refine S_val rfl rfl (Y_lss_t rfl rfl (by decide)) ?_
        refine S_nil ?_
        refine X_seq ?_
        refine T_seq ?_
        refine T_cond_true rfl ?_
        refine T_skip ?_
        refine X_seq ?_
        refine T_seq ?_
        refine T_block ?_
        refine T_seq ?_
        refine T_region ?_
        refine S_val rfl rfl (Y_move rfl) ?_
        refine S_val rfl rfl (Y_indexP (und rfl) (siz rfl) (und rfl) rfl rfl rfl (nat_cast _) (Nat.le_of_ble_eq_true rfl) (w3_0 _ _ _)) ?_
        refine S_allocA (zer rfl) rfl rfl fun _ => ?_
        refine S_val rfl rfl (Y_assign rfl) ?_
        refine S_storeAI 1 (siz rfl) rfl rfl rfl rfl (dl_length _ _ _) rfl ?_
        refine S_nil ?_
        refine X_seq ?_
        refine T_seq ?_
        refine T_region ?_
        refine S_val rfl rfl (Y_loadAI 1 (und rfl) rfl rfl rfl (siz rfl) (dl_length _ _ _)) ?_
        refine S_callV rfl rfl (bod rfl) (fun w hs => s0 _) rfl rfl ?_
        refine S_val rfl rfl (Y_move rfl) ?_
        refine S_val rfl rfl (Y_extract rfl rfl) ?_
        refine S_val rfl rfl (Y_extract rfl rfl) ?_
        refine S_val rfl rfl (Y_assign rfl) ?_
        refine S_val rfl rfl (Y_assign rfl) ?_
        refine S_nil ?_
        refine X_seq ?_
        refine T_seq ?_
        refine T_seq ?_
        refine T_region ?_
        refine S_val rfl rfl (Y_move rfl) ?_
        refine S_val rfl rfl (Y_not rfl rfl) ?_
        refine S_val rfl rfl (Y_move rfl) ?_
        refine S_val rfl rfl (Y_move rfl) ?_
        refine S_val rfl rfl (Y_gtr_f rfl rfl (by omega)) ?_
        refine S_val rfl rfl (Y_pick_f rfl rfl) ?_
        refine S_nil ?_
        refine X_seq ?_
        refine T_cond_false rfl ?_
        refine T_skip ?_
        refine X_seq ?_
        refine T_region ?_
        refine S_val rfl rfl (Y_move rfl) ?_
        refine S_val rfl rfl (Y_move rfl) ?_
        refine S_val rfl rfl (Y_ixa (und rfl) (siz rfl) rfl rfl (nat_cast _) (Nat.le_of_ble_eq_true rfl)) ?_
        refine S_storeI 0 (siz rfl) rfl rfl rfl (Nat.le_of_ble_eq_true rfl) rfl rfl ?_
        refine S_nil ?_
        refine X_blk ?_
        refine X_seq ?_
        refine T_region ?_
        refine S_val rfl rfl (Y_addN rfl rfl (nat_cast _) (nat_lit' _) (Nat.le_of_ble_eq_true rfl)) ?_
        refine S_val rfl rfl (Y_move rfl) ?_
        refine S_nil ?_
        refine X_loop ?_
        exact ⟨(1, [(b : Int), 0, 0]), .inr (.inl rfl), by dsimp only; omega, (by repeat (first | exact Env.sub_nil _ | (apply Env.sub_cons; rfl))), Emb.one 0 rfl⟩
      · refine T_seq ?_
        refine T_region ?_
        refine S_val rfl rfl (Y_lss_t rfl rfl (by omega)) ?_
        refine S_nil ?_
        refine X_seq ?_
        refine T_seq ?_
        refine T_cond_true rfl ?_
        refine T_skip ?_
        refine X_seq ?_
        refine T_seq ?_
        refine T_block ?_
        refine T_seq ?_
        refine T_region ?_
        refine S_val rfl rfl (Y_move rfl) ?_
        refine S_val rfl rfl (Y_indexP (und rfl) (siz rfl) (und rfl) rfl rfl rfl (nat_cast _) (Nat.le_of_ble_eq_true rfl) (w3_1 _ _ _)) ?_
        refine S_allocA (zer rfl) rfl rfl fun _ => ?_
        refine S_val rfl rfl (Y_assign rfl) ?_
        refine S_storeAI 1 (siz rfl) rfl rfl rfl rfl (dl_length _ _ _) rfl ?_
        refine S_nil ?_
        refine X_seq ?_
        refine T_seq ?_
        refine T_region ?_
        refine S_val rfl rfl (Y_loadAI 1 (und rfl) rfl rfl rfl (siz rfl) (dl_length _ _ _)) ?_
        refine S_callV rfl rfl (bod rfl) (fun w hs => s1 _) rfl rfl ?_
        refine S_val rfl rfl (Y_move rfl) ?_
        refine S_val rfl rfl (Y_extract rfl rfl) ?_
        refine S_val rfl rfl (Y_extract rfl rfl) ?_
        refine S_val rfl rfl (Y_assign rfl) ?_
        refine S_val rfl rfl (Y_assign rfl) ?_
        refine S_nil ?_
        refine X_seq ?_
        refine T_seq ?_
        refine T_seq ?_
        refine T_region ?_
        refine S_val rfl rfl (Y_move rfl) ?_
        refine S_val rfl rfl (Y_not rfl rfl) ?_
        refine S_val rfl rfl (Y_move rfl) ?_
        refine S_val rfl rfl (Y_move rfl) ?_
        refine S_val rfl rfl (Y_gtr_f rfl rfl (by omega)) ?_
        refine S_val rfl rfl (Y_pick_f rfl rfl) ?_
        refine S_nil ?_
        refine X_seq ?_
        refine T_cond_false rfl ?_
        refine T_skip ?_
        refine X_seq ?_
        refine T_region ?_
        refine S_val rfl rfl (Y_move rfl) ?_
        refine S_val rfl rfl (Y_move rfl) ?_
        refine S_val rfl rfl (Y_ixa (und rfl) (siz rfl) rfl rfl (nat_cast _) (Nat.le_of_ble_eq_true rfl)) ?_
        refine S_storeI 0 (siz rfl) rfl rfl rfl (Nat.le_of_ble_eq_true rfl) rfl rfl ?_
        refine S_nil ?_
        refine X_blk ?_
        refine X_seq ?_
        refine T_region ?_
        refine S_val rfl rfl (Y_addN rfl rfl (nat_cast _) (nat_lit' _) (Nat.le_of_ble_eq_true rfl)) ?_
        refine S_val rfl rfl (Y_move rfl) ?_
        refine S_nil ?_
        refine X_loop ?_
        exact ⟨(2, [(b : Int), (e : Int), 0]), .inr (.inr rfl), by dsimp only; omega, (by repeat (first | exact Env.sub_nil _ | (apply Env.sub_cons; rfl))), Emb.one 0 rfl⟩
      · refine T_seq ?_
        refine T_region ?_
        refine S_val rfl rfl (Y_lss_t rfl rfl (by omega)) ?_
        refine S_nil ?_
        refine X_seq ?_
        refine T_seq ?_
        refine T_cond_true rfl ?_
        refine T_skip ?_
        refine X_seq ?_
        refine T_seq ?_
        refine T_block ?_
        refine T_seq ?_
        refine T_region ?_
        refine S_val rfl rfl (Y_move rfl) ?_
        refine S_val rfl rfl (Y_indexP (und rfl) (siz rfl) (und rfl) rfl rfl rfl (nat_cast _) (Nat.le_of_ble_eq_true rfl) (w3_2 _ _ _)) ?_
        refine S_allocA (zer rfl) rfl rfl fun _ => ?_
        refine S_val rfl rfl (Y_assign rfl) ?_
        refine S_storeAI 1 (siz rfl) rfl rfl rfl rfl (dl_length _ _ _) rfl ?_
        refine S_nil ?_
        refine X_seq ?_
        refine T_seq ?_
        refine T_region ?_
        refine S_val rfl rfl (Y_loadAI 1 (und rfl) rfl rfl rfl (siz rfl) (dl_length _ _ _)) ?_
        refine S_callV rfl rfl (bod rfl) (fun w hs => s2 _) rfl rfl ?_
        first | (refine S_val rfl rfl (Y_move rfl) ?_; refine S_val rfl rfl (Y_extract rfl rfl) ?_; refine S_val rfl rfl (Y_extract rfl rfl) ?_; refine S_val rfl rfl (Y_assign rfl) ?_; refine S_val rfl rfl (Y_assign rfl) ?_; refine S_nil ?_; refine X_seq ?_; refine T_seq ?_; refine T_seq ?_; refine T_region ?_; refine S_val rfl rfl (Y_move rfl) ?_; refine S_val rfl rfl (Y_not rfl rfl) ?_; refine S_val rfl rfl (Y_move rfl) ?_; refine S_val rfl rfl (Y_move rfl) ?_; refine S_val rfl rfl (Y_gtr_t rfl rfl (by omega)) ?_; refine S_val rfl rfl (Y_pick_f rfl rfl) ?_; refine S_nil ?_; refine X_seq ?_; refine T_cond_true rfl ?_; refine T_seq ?_; refine T_region ?_; refine S_val rfl rfl (Y_assign rfl) ?_; refine S_val rfl rfl (Y_assign rfl) ?_; refine S_nil ?_; refine X_seq ?_; refine T_ret ?_; refine X_seq_ret ?_; refine X_blk_ret ?_; refine X_seq_ret ?_; refine X_loop_ret ?_; refine X_blk_ret ?_; refine X_seq_ret ?_) | (refine S_val rfl rfl (Y_move rfl) ?_; refine S_val rfl rfl (Y_extract rfl rfl) ?_; refine S_val rfl rfl (Y_extract rfl rfl) ?_; refine S_val rfl rfl (Y_assign rfl) ?_; refine S_val rfl rfl (Y_assign rfl) ?_; refine S_nil ?_; refine X_seq ?_; refine T_seq ?_; refine T_seq ?_; refine T_region ?_; refine S_val rfl rfl (Y_move rfl) ?_; refine S_val rfl rfl (Y_not rfl rfl) ?_; refine S_val rfl rfl (Y_move rfl) ?_; refine S_skip rfl rfl ?_; refine S_skip rfl rfl ?_; refine S_val rfl rfl (Y_pick_t rfl rfl) ?_; refine S_nil ?_; refine X_seq ?_; refine T_cond_true rfl ?_; refine T_seq ?_; refine T_region ?_; refine S_val rfl rfl (Y_assign rfl) ?_; refine S_val rfl rfl (Y_assign rfl) ?_; refine S_nil ?_; refine X_seq ?_; refine T_ret ?_; refine X_seq_ret ?_; refine X_blk_ret ?_; refine X_seq_ret ?_; refine X_loop_ret ?_; refine X_blk_ret ?_; refine X_seq_ret ?_)
        ((first | refine X_fin_ret ?_ | refine X_fin ?_); exact ⟨[_, _], [], .cons (.tmp rfl) (.cons (.tmp rfl) .nil), Emb.nil _, rfl, rfl⟩)
theorem mrun_pow (n x : Nat) (hx : x < 256 ^ n) (hn : n ≤ 1000000) (v : Value) (w : World) (hr : Rd w v .u8 (bel n x)) (h : ¬ (lenN n x 0 = 0 ∧ lenN n x 2 = 0)) (hb : lenN n x 0 ≤ 64) (he : lenN n x 1 ≤ 64) (hm : lenN n x 2 ≤ 64) :
    Fn Tryd.prog 19 #[v] w (PowR (lenN n x 2) (runN n x)) := by
  have lg := fun w h => mlengths_any n x hx hn v w h
  have w3l := w3_length (lenN n x 0) (lenN n x 1) (lenN n x 2)
  have hne := ne_of_len (lenN_lt n x 0) (lenN_lt n x 2) h
  have s0 := small_any _ (lenN_lt n x 0)
  have s1 := small_any _ (lenN_lt n x 1)
  have s2 := small_any _ (lenN_lt n x 2)
  rw [if_pos (by omega), decide_eq_true (by omega)] at s0 s1 s2
  have hrd : runN n x = powN (inN n x 96 (lenN n x 0)) (inN n x (96 + lenN n x 0) (lenN n x 1)) (inN n x (96 + lenN n x 0 + lenN n x 1) (lenN n x 2)) := rfl
  have t0 := fun w h => mpart_any n x 96 (lenN n x 0) hx hn (by omega) (by omega) v w h
  have t1 := fun w h => mpart_any n x (96 + lenN n x 0) (lenN n x 1) hx hn (by omega) (by omega) v w h
  have t2 := fun w h => mpart_any n x (96 + lenN n x 0 + lenN n x 1) (lenN n x 2) hx hn (by omega) (by omega) v w h
  simp only [inN_bel] at t0 t1 t2
  have l0 := inN_lt n x 96 (lenN n x 0)
  have l1 := inN_lt n x (96 + lenN n x 0) (lenN n x 1)
  have l2 := inN_lt n x (96 + lenN n x 0 + lenN n x 1) (lenN n x 2)
  have pw := fun v0 v1 v2 w h0 h1 h2 => mpow_any _ _ _ _ _ _ l0 l1 l2 (by omega) (by omega) (by omega) v0 v1 v2 w h0 h1 h2
  rw [← hrd] at pw
  clear hrd l0 l1 l2 h
  generalize runN n x = z at *
  generalize inN n x 96 (lenN n x 0) = B at *
  generalize inN n x (96 + lenN n x 0) (lenN n x 1) = X at *
  generalize inN n x (96 + lenN n x 0 + lenN n x 1) (lenN n x 2) = M at *
  generalize lenN n x 0 = b at *
  generalize lenN n x 1 = e at *
  generalize lenN n x 2 = m at *
  rcases hne with n1 | ⟨n1, n2⟩
  all_goals
    refine Fn_of (args := [v]) Tryd.func19 rfl Tryd.ntmps19 Tryd.results19 (by simp) ?_
    refine T_seq ?_
    refine T_region ?_
    refine S_val rfl rfl (Y_assign rfl) ?_
    refine S_val rfl rfl (Y_assign rfl) ?_
    refine S_nil ?_
    refine X_seq ?_
    refine T_seq ?_
    refine T_region ?_
    refine S_val rfl rfl (Y_move rfl) ?_
    refine S_callV rfl rfl (bod rfl) (fun w hs => lg _ (by first | exact hs.rowRd 0 rfl | exact hs.rowRd 1 rfl | exact hs.rowRd 2 rfl | exact hs.rowRd 3 rfl | exact hs.rowRd 4 rfl | exact hs.rowRd 5 rfl | exact hs.rowRd 6 rfl | exact hs.rowRd 7 rfl | exact hs.rowRd 8 rfl | exact hs.rowRd 9 rfl | exact hs.rowRd 10 rfl | exact hs.rowRd 11 rfl | exact hs.rowRd 12 rfl | exact hs.rowRd 13 rfl | exact Rd.st (by assumption) hs)) rfl rfl ?_
    first | (refine S_allocA (zer rfl) rfl rfl fun _ => ?_; refine S_storeAI 0 (siz rfl) rfl rfl rfl rfl rfl rfl ?_; refine S_nil ?_; refine X_seq ?_; refine T_seq ?_; refine T_seq ?_; refine T_region ?_; refine S_val rfl rfl (Y_ixg (und rfl) (siz rfl) rfl rfl (nat_lit' _) (Nat.le_of_ble_eq_true rfl)) ?_; refine S_val rfl rfl (Y_loadPX 0 (und rfl) rfl rfl rfl (siz rfl) (Nat.le_of_ble_eq_true rfl) (w3_0 _ _ _)) ?_; refine S_val rfl rfl (Y_build (und rfl) (siz rfl) (zer rfl) rfl rfl) ?_; refine S_val rfl rfl (Y_eqlA_f (eqg rfl) (und rfl) (und rfl) (siz rfl) rfl rfl (dl_length _ _ _) rfl (by assumption)) ?_; refine S_val rfl rfl (Y_move rfl) ?_; refine S_skip rfl rfl ?_; refine S_skip rfl rfl ?_; refine S_skip rfl rfl ?_; refine S_skip rfl rfl ?_; refine S_val rfl rfl (Y_pick_f rfl rfl) ?_; refine S_nil ?_; refine X_seq ?_; refine T_cond_false rfl ?_; refine T_skip ?_; refine X_seq ?_; refine T_seq ?_; refine T_region ?_; refine S_allocA (zer rfl) rfl rfl fun _ => ?_; refine S_nil ?_; refine X_seq ?_; refine T_seq ?_; refine T_seq ?_; refine T_region ?_; refine S_val rfl rfl (Y_loadAI 0 (und rfl) rfl rfl rfl (siz rfl) rfl) ?_; refine S_val rfl rfl (Y_move rfl) ?_; refine S_nil ?_; refine X_seq ?_; refine T_block ?_) | (refine S_allocA (zer rfl) rfl rfl fun _ => ?_; refine S_storeAI 0 (siz rfl) rfl rfl rfl rfl rfl rfl ?_; refine S_nil ?_; refine X_seq ?_; refine T_seq ?_; refine T_seq ?_; refine T_region ?_; refine S_val rfl rfl (Y_ixg (und rfl) (siz rfl) rfl rfl (nat_lit' _) (Nat.le_of_ble_eq_true rfl)) ?_; refine S_val rfl rfl (Y_loadPX 0 (und rfl) rfl rfl rfl (siz rfl) (Nat.le_of_ble_eq_true rfl) (w3_0 _ _ _)) ?_; refine S_val rfl rfl (Y_build (und rfl) (siz rfl) (zer rfl) rfl rfl) ?_; refine S_val rfl rfl (Y_eqlA_t (eqg rfl) (und rfl) (und rfl) (siz rfl) rfl rfl (dl_length _ _ _) (by assumption)) ?_; refine S_val rfl rfl (Y_move rfl) ?_; refine S_val rfl rfl (Y_ixg (und rfl) (siz rfl) rfl rfl (nat_lit' _) (Nat.le_of_ble_eq_true rfl)) ?_; refine S_val rfl rfl (Y_loadPX 0 (und rfl) rfl rfl rfl (siz rfl) (Nat.le_of_ble_eq_true rfl) (w3_2 _ _ _)) ?_; refine S_val rfl rfl (Y_build (und rfl) (siz rfl) (zer rfl) rfl rfl) ?_; refine S_val rfl rfl (Y_eqlA_f (eqg rfl) (und rfl) (und rfl) (siz rfl) rfl rfl (dl_length _ _ _) rfl (by assumption)) ?_; refine S_val rfl rfl (Y_pick_t rfl rfl) ?_; refine S_nil ?_; refine X_seq ?_; refine T_cond_false rfl ?_; refine T_skip ?_; refine X_seq ?_; refine T_seq ?_; refine T_region ?_; refine S_allocA (zer rfl) rfl rfl fun _ => ?_; refine S_nil ?_; refine X_seq ?_; refine T_seq ?_; refine T_seq ?_; refine T_region ?_; refine S_val rfl rfl (Y_loadAI 0 (und rfl) rfl rfl rfl (siz rfl) rfl) ?_; refine S_val rfl rfl (Y_move rfl) ?_; refine S_nil ?_; refine X_seq ?_; refine T_block ?_)
    rename_i b4 b5
    refine T_loopE (α := Nat × List Int) (fun a => a = (0, [0, 0, 0]) ∨ a = (1, [(b : Int), 0, 0]) ∨ a = (2, [(b : Int), (e : Int), 0]) ∨ a = (3, [(b : Int), (e : Int), (m : Int)]))
      (fun a => [(0, v), (5, .pointer (some ⟨b5, 0, none⟩)), (24, .agg (ints .u64 (w3 b e m))), (25, .int .i64 a.1)])
      (fun a => [blk b5 (.cells (ints .u64 a.2) 70 (0, 0))])
      (fun a => 3 - a.1) (0, [0, 0, 0]) (.inl rfl) (by repeat (first | exact Env.sub_nil _ | (apply Env.sub_cons; rfl))) (Emb.one 1 rfl) ?_
    rintro _ (rfl | rfl | rfl | rfl)
    · refine T_seq ?_
      refine T_region ?_
      refine S_val rfl rfl (Y_lss_t rfl rfl (by decide)) ?_
      refine S_nil ?_
      refine X_seq ?_
      refine T_seq ?_
      refine T_cond_true rfl ?_
      refine T_skip ?_
      refine X_seq ?_
      refine T_seq ?_
      refine T_block ?_
      refine T_seq ?_
      refine T_region ?_
      refine S_val rfl rfl (Y_move rfl) ?_
      refine S_val rfl rfl (Y_indexP (und rfl) (siz rfl) (und rfl) rfl rfl rfl (nat_cast _) (Nat.le_of_ble_eq_true rfl) (w3_0 _ _ _)) ?_
      refine S_allocA (zer rfl) rfl rfl fun _ => ?_
      refine S_val rfl rfl (Y_assign rfl) ?_
      refine S_storeAI 1 (siz rfl) rfl rfl rfl rfl (dl_length _ _ _) rfl ?_
      refine S_nil ?_
      refine X_seq ?_
      refine T_seq ?_
      refine T_region ?_
      refine S_val rfl rfl (Y_loadAI 1 (und rfl) rfl rfl rfl (siz rfl) (dl_length _ _ _)) ?_
      refine S_callV rfl rfl (bod rfl) (fun w hs => s0 _) rfl rfl ?_
      refine S_val rfl rfl (Y_move rfl) ?_
      refine S_val rfl rfl (Y_extract rfl rfl) ?_
      refine S_val rfl rfl (Y_extract rfl rfl) ?_
      refine S_val rfl rfl (Y_assign rfl) ?_
      refine S_val rfl rfl (Y_assign rfl) ?_
      refine S_nil ?_
      refine X_seq ?_
      refine T_seq ?_
      refine T_seq ?_
      refine T_region ?_
      refine S_val rfl rfl (Y_move rfl) ?_
      refine S_val rfl rfl (Y_not rfl rfl) ?_
      refine S_val rfl rfl (Y_move rfl) ?_
      refine S_val rfl rfl (Y_move rfl) ?_
      refine S_val rfl rfl (Y_gtr_f rfl rfl (by omega)) ?_
      refine S_val rfl rfl (Y_pick_f rfl rfl) ?_
      refine S_nil ?_
      refine X_seq ?_
      refine T_cond_false rfl ?_
      refine T_skip ?_
      refine X_seq ?_
      refine T_region ?_
      refine S_val rfl rfl (Y_move rfl) ?_
      refine S_val rfl rfl (Y_move rfl) ?_
      refine S_val rfl rfl (Y_ixa (und rfl) (siz rfl) rfl rfl (nat_cast _) (Nat.le_of_ble_eq_true rfl)) ?_
      refine S_storeI 0 (siz rfl) rfl rfl rfl (Nat.le_of_ble_eq_true rfl) rfl rfl ?_
      refine S_nil ?_
      refine X_blk ?_
      refine X_seq ?_
      refine T_region ?_
      refine S_val rfl rfl (Y_addN rfl rfl (nat_cast _) (nat_lit' _) (Nat.le_of_ble_eq_true rfl)) ?_
      refine S_val rfl rfl (Y_move rfl) ?_
      refine S_nil ?_
      refine X_loop ?_
      exact ⟨(1, [(b : Int), 0, 0]), .inr (.inl rfl), by dsimp only; omega, (by repeat (first | exact Env.sub_nil _ | (apply Env.sub_cons; rfl))), Emb.one 0 rfl⟩
    · refine T_seq ?_
      refine T_region ?_
      refine S_val rfl rfl (Y_lss_t rfl rfl (by omega)) ?_
      refine S_nil ?_
      refine X_seq ?_
      refine T_seq ?_
      refine T_cond_true rfl ?_
      refine T_skip ?_
      refine X_seq ?_
      refine T_seq ?_
      refine T_block ?_
      refine T_seq ?_
      refine T_region ?_
      refine S_val rfl rfl (Y_move rfl) ?_
      refine S_val rfl rfl (Y_indexP (und rfl) (siz rfl) (und rfl) rfl rfl rfl (nat_cast _) (Nat.le_of_ble_eq_true rfl) (w3_1 _ _ _)) ?_
      refine S_allocA (zer rfl) rfl rfl fun _ => ?_
      refine S_val rfl rfl (Y_assign rfl) ?_
      refine S_storeAI 1 (siz rfl) rfl rfl rfl rfl (dl_length _ _ _) rfl ?_
      refine S_nil ?_
      refine X_seq ?_
      refine T_seq ?_
      refine T_region ?_
      refine S_val rfl rfl (Y_loadAI 1 (und rfl) rfl rfl rfl (siz rfl) (dl_length _ _ _)) ?_
      refine S_callV rfl rfl (bod rfl) (fun w hs => s1 _) rfl rfl ?_
      refine S_val rfl rfl (Y_move rfl) ?_
      refine S_val rfl rfl (Y_extract rfl rfl) ?_
      refine S_val rfl rfl (Y_extract rfl rfl) ?_
      refine S_val rfl rfl (Y_assign rfl) ?_
      refine S_val rfl rfl (Y_assign rfl) ?_
      refine S_nil ?_
      refine X_seq ?_
      refine T_seq ?_
      refine T_seq ?_
      refine T_region ?_
      refine S_val rfl rfl (Y_move rfl) ?_
      refine S_val rfl rfl (Y_not rfl rfl) ?_
      refine S_val rfl rfl (Y_move rfl) ?_
      refine S_val rfl rfl (Y_move rfl) ?_
      refine S_val rfl rfl (Y_gtr_f rfl rfl (by omega)) ?_
      refine S_val rfl rfl (Y_pick_f rfl rfl) ?_
      refine S_nil ?_
      refine X_seq ?_
      refine T_cond_false rfl ?_
      refine T_skip ?_
      refine X_seq ?_
      refine T_region ?_
      refine S_val rfl rfl (Y_move rfl) ?_
      refine S_val rfl rfl (Y_move rfl) ?_
      refine S_val rfl rfl (Y_ixa (und rfl) (siz rfl) rfl rfl (nat_cast _) (Nat.le_of_ble_eq_true rfl)) ?_
      refine S_storeI 0 (siz rfl) rfl rfl rfl (Nat.le_of_ble_eq_true rfl) rfl rfl ?_
      refine S_nil ?_
      refine X_blk ?_
      refine X_seq ?_
      refine T_region ?_
      refine S_val rfl rfl (Y_addN rfl rfl (nat_cast _) (nat_lit' _) (Nat.le_of_ble_eq_true rfl)) ?_
      refine S_val rfl rfl (Y_move rfl) ?_
      refine S_nil ?_
      refine X_loop ?_
      exact ⟨(2, [(b : Int), (e : Int), 0]), .inr (.inr (.inl rfl)), by dsimp only; omega, (by repeat (first | exact Env.sub_nil _ | (apply Env.sub_cons; rfl))), Emb.one 0 rfl⟩
    · refine T_seq ?_
      refine T_region ?_
      refine S_val rfl rfl (Y_lss_t rfl rfl (by omega)) ?_
      refine S_nil ?_
      refine X_seq ?_
      refine T_seq ?_
      refine T_cond_true rfl ?_
      refine T_skip ?_
      refine X_seq ?_
      refine T_seq ?_
      refine T_block ?_
      refine T_seq ?_
      refine T_region ?_
      refine S_val rfl rfl (Y_move rfl) ?_
      refine S_val rfl rfl (Y_indexP (und rfl) (siz rfl) (und rfl) rfl rfl rfl (nat_cast _) (Nat.le_of_ble_eq_true rfl) (w3_2 _ _ _)) ?_
      refine S_allocA (zer rfl) rfl rfl fun _ => ?_
      refine S_val rfl rfl (Y_assign rfl) ?_
      refine S_storeAI 1 (siz rfl) rfl rfl rfl rfl (dl_length _ _ _) rfl ?_
      refine S_nil ?_
      refine X_seq ?_
      refine T_seq ?_
      refine T_region ?_
      refine S_val rfl rfl (Y_loadAI 1 (und rfl) rfl rfl rfl (siz rfl) (dl_length _ _ _)) ?_
      refine S_callV rfl rfl (bod rfl) (fun w hs => s2 _) rfl rfl ?_
      refine S_val rfl rfl (Y_move rfl) ?_
      refine S_val rfl rfl (Y_extract rfl rfl) ?_
      refine S_val rfl rfl (Y_extract rfl rfl) ?_
      refine S_val rfl rfl (Y_assign rfl) ?_
      refine S_val rfl rfl (Y_assign rfl) ?_
      refine S_nil ?_
      refine X_seq ?_
      refine T_seq ?_
      refine T_seq ?_
      refine T_region ?_
      refine S_val rfl rfl (Y_move rfl) ?_
      refine S_val rfl rfl (Y_not rfl rfl) ?_
      refine S_val rfl rfl (Y_move rfl) ?_
      refine S_val rfl rfl (Y_move rfl) ?_
      refine S_val rfl rfl (Y_gtr_f rfl rfl (by omega)) ?_
      refine S_val rfl rfl (Y_pick_f rfl rfl) ?_
      refine S_nil ?_
      refine X_seq ?_
      refine T_cond_false rfl ?_
      refine T_skip ?_
      refine X_seq ?_
      refine T_region ?_
      refine S_val rfl rfl (Y_move rfl) ?_
      refine S_val rfl rfl (Y_move rfl) ?_
      refine S_val rfl rfl (Y_ixa (und rfl) (siz rfl) rfl rfl (nat_cast _) (Nat.le_of_ble_eq_true rfl)) ?_
      refine S_storeI 0 (siz rfl) rfl rfl rfl (Nat.le_of_ble_eq_true rfl) rfl rfl ?_
      refine S_nil ?_
      refine X_blk ?_
      refine X_seq ?_
      refine T_region ?_
      refine S_val rfl rfl (Y_addN rfl rfl (nat_cast _) (nat_lit' _) (Nat.le_of_ble_eq_true rfl)) ?_
      refine S_val rfl rfl (Y_move rfl) ?_
      refine S_nil ?_
      refine X_loop ?_
      exact ⟨(3, [(b : Int), (e : Int), (m : Int)]), .inr (.inr (.inr rfl)), by dsimp only; omega, (by repeat (first | exact Env.sub_nil _ | (apply Env.sub_cons; rfl))), Emb.one 0 rfl⟩
    · refine T_seq ?_
      refine T_region ?_
      refine S_val rfl rfl (Y_lss_f rfl rfl (by omega)) ?_
      refine S_nil ?_
      refine X_seq ?_
      refine T_seq ?_
      refine T_cond_false rfl ?_
      refine T_exit ?_
      refine X_seq_exit ?_
      refine X_loop_exit ?_
      refine X_blk_hit rfl ?_
      refine X_seq ?_
      refine T_seq ?_
      refine T_region ?_
      refine S_val rfl rfl (Y_move rfl) ?_
      refine S_val rfl rfl (Y_ixa (und rfl) (siz rfl) rfl rfl (nat_lit' _) (Nat.le_of_ble_eq_true rfl)) ?_
      refine S_val rfl rfl (Y_loadI 0 (und rfl) rfl rfl rfl rfl) ?_
      refine S_callR _ rfl rfl (bod rfl) (fun w hs => t0 _ (by first | exact hs.rowRd 0 rfl | exact hs.rowRd 1 rfl | exact hs.rowRd 2 rfl | exact hs.rowRd 3 rfl | exact hs.rowRd 4 rfl | exact hs.rowRd 5 rfl | exact hs.rowRd 6 rfl | exact hs.rowRd 7 rfl | exact hs.rowRd 8 rfl | exact hs.rowRd 9 rfl | exact hs.rowRd 10 rfl | exact hs.rowRd 11 rfl | exact hs.rowRd 12 rfl | exact hs.rowRd 13 rfl | exact Rd.st (by assumption) hs)) rfl rfl fun _ => ?_
      refine S_val rfl rfl (Y_assign rfl) ?_
      refine S_nil ?_
      refine X_seq ?_
      refine T_seq ?_
      refine T_region ?_
      refine S_val rfl rfl (Y_move rfl) ?_
      refine S_val rfl rfl (Y_ixa (und rfl) (siz rfl) rfl rfl (nat_lit' _) (Nat.le_of_ble_eq_true rfl)) ?_
      refine S_val rfl rfl (Y_loadI 0 (und rfl) rfl rfl rfl rfl) ?_
      refine S_val rfl rfl (Y_addU rfl rfl (nat_lit' _) (nat_cast _) rfl (by simp only [IntKind.bits]; omega)) ?_
      refine S_val rfl rfl (Y_ixa (und rfl) (siz rfl) rfl rfl (nat_lit' _) (Nat.le_of_ble_eq_true rfl)) ?_
      refine S_val rfl rfl (Y_loadI 0 (und rfl) rfl rfl rfl rfl) ?_
      refine S_callR _ rfl rfl (bod rfl) (fun w hs => t1 _ (by first | exact hs.rowRd 0 rfl | exact hs.rowRd 1 rfl | exact hs.rowRd 2 rfl | exact hs.rowRd 3 rfl | exact hs.rowRd 4 rfl | exact hs.rowRd 5 rfl | exact hs.rowRd 6 rfl | exact hs.rowRd 7 rfl | exact hs.rowRd 8 rfl | exact hs.rowRd 9 rfl | exact hs.rowRd 10 rfl | exact hs.rowRd 11 rfl | exact hs.rowRd 12 rfl | exact hs.rowRd 13 rfl | exact Rd.st (by assumption) hs)) rfl rfl fun _ => ?_
      refine S_val rfl rfl (Y_assign rfl) ?_
      refine S_nil ?_
      refine X_seq ?_
      refine T_seq ?_
      refine T_region ?_
      refine S_val rfl rfl (Y_move rfl) ?_
      refine S_val rfl rfl (Y_move rfl) ?_
      refine S_val rfl rfl (Y_move rfl) ?_
      refine S_val rfl rfl (Y_ixa (und rfl) (siz rfl) rfl rfl (nat_lit' _) (Nat.le_of_ble_eq_true rfl)) ?_
      refine S_val rfl rfl (Y_loadI 0 (und rfl) rfl rfl rfl rfl) ?_
      refine S_val rfl rfl (Y_addU rfl rfl (nat_lit' _) (nat_cast _) rfl (by simp only [IntKind.bits]; omega)) ?_
      refine S_val rfl rfl (Y_ixa (und rfl) (siz rfl) rfl rfl (nat_lit' _) (Nat.le_of_ble_eq_true rfl)) ?_
      refine S_val rfl rfl (Y_loadI 0 (und rfl) rfl rfl rfl rfl) ?_
      refine S_val rfl rfl (Y_addU rfl rfl (nat_cast _) (nat_cast _) rfl (by simp only [IntKind.bits]; omega)) ?_
      refine S_val rfl rfl (Y_ixa (und rfl) (siz rfl) rfl rfl (nat_lit' _) (Nat.le_of_ble_eq_true rfl)) ?_
      refine S_val rfl rfl (Y_loadI 0 (und rfl) rfl rfl rfl rfl) ?_
      refine S_callR _ rfl rfl (bod rfl) (fun w hs => t2 _ (by first | exact hs.rowRd 0 rfl | exact hs.rowRd 1 rfl | exact hs.rowRd 2 rfl | exact hs.rowRd 3 rfl | exact hs.rowRd 4 rfl | exact hs.rowRd 5 rfl | exact hs.rowRd 6 rfl | exact hs.rowRd 7 rfl | exact hs.rowRd 8 rfl | exact hs.rowRd 9 rfl | exact hs.rowRd 10 rfl | exact hs.rowRd 11 rfl | exact hs.rowRd 12 rfl | exact hs.rowRd 13 rfl | exact Rd.st (by assumption) hs)) rfl rfl fun _ => ?_
      skip
      refine S_call _ rfl rfl (bod rfl) (fun w hs => pw _ _ _ _ (hs.rowRd 1 rfl) (hs.rowRd 2 rfl) (hs.rowRd 3 rfl)) rfl rfl ?_
      rintro _ _ ⟨u, rfl, rfl⟩
      refine S_val rfl rfl (Y_extract rfl rfl) ?_
      refine S_val rfl rfl (Y_extract rfl rfl) ?_
      refine S_val rfl rfl (Y_assign rfl) ?_
      refine S_val rfl rfl (Y_assign rfl) ?_
      refine S_nil ?_
      refine X_seq ?_
      refine T_ret ?_
      ((first | refine X_fin_ret ?_ | refine X_fin ?_); exact ⟨[_, _], [_], .cons (.tmp rfl) (.cons (.tmp rfl) .nil), Emb.one 4 rfl, ⟨_, rfl, rfl⟩⟩)
end Go.Proofs.YtchoncjikdfbgaaDoor
