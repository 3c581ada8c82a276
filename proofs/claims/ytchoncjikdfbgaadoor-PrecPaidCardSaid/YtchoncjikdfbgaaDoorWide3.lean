import Derived.Test.YtchoncjikdfbgaaDoorWide2
/- The quotient of two words. -/
namespace Go.Proofs.YtchoncjikdfbgaaDoor
open Go.RowKit
set_option maxRecDepth 20000
set_option maxHeartbeats 4000000

/-- What is left; of what is divided by 0: nothing. -/
def remN (x y : Nat) : Nat := if y = 0 then 0 else x % y
theorem bitLen_pow (x : Nat) : x / 2 ^ bitLen x = 0 := by
  refine Nat.div_eq_of_lt ?_
  unfold bitLen
  split
  · rename_i h; subst h; decide
  · rename_i h0
    exact (Nat.log2_lt h0).1 (Nat.lt_succ_self _)
theorem bitLen_256 (x : Nat) (h : x < 2 ^ 256) : bitLen x ≤ 256 := by
  unfold bitLen
  split
  · omega
  · rename_i h0
    have := (Nat.log2_lt h0).2 h
    omega
theorem e_zero : dl 18446744073709551616 4 0 = fillI (List.replicate 4 0) [] := by decide +kernel

theorem wdiv_any (x y : Nat) (hx : x < 2 ^ 256) (hy : y < 2 ^ 256) (w : World) :
    Fn Tryd.prog 32 #[W x, W y] w fun v N => v = .tuple #[W (x / y), W (remN x y)] ∧ N = [] := by
  have smx := small_any x hx
  have smy := small_any y hy
  by_cases h0 : y = 0
  · have ey : dl 18446744073709551616 4 y = fillI (List.replicate 4 0) [] := by rw [h0]; exact e_zero
    refine Fn_of (args := [W x, W y]) Tryd.func32 rfl Tryd.ntmps32 Tryd.results32 (by simp) ?_
    refine T_seq ?_
    refine T_region ?_
    refine S_boxA rfl rfl rfl fun _ => ?_
    refine S_boxA rfl rfl rfl fun _ => ?_
    refine S_allocA (zer rfl) rfl rfl fun _ => ?_
    refine S_allocA (zer rfl) rfl rfl fun _ => ?_
    refine S_nil ?_
    refine X_seq ?_
    refine T_seq ?_
    refine T_region ?_
    refine S_allocA (zer rfl) rfl rfl fun _ => ?_
    refine S_allocA (zer rfl) rfl rfl fun _ => ?_
    refine S_nil ?_
    refine X_seq ?_
    refine T_seq ?_
    refine T_region ?_
    refine S_val rfl rfl (Y_loadAI 0 (und rfl) rfl rfl rfl (siz rfl) (dl_length _ _ _)) ?_
    refine S_callV rfl rfl (bod rfl) (fun w hs => smx _) rfl rfl ?_
    refine S_val rfl rfl (Y_move rfl) ?_
    refine S_val rfl rfl (Y_extract rfl rfl) ?_
    refine S_val rfl rfl (Y_extract rfl rfl) ?_
    refine S_val rfl rfl (Y_assign rfl) ?_
    refine S_val rfl rfl (Y_assign rfl) ?_
    refine S_nil ?_
    refine X_seq ?_
    refine T_seq ?_
    refine T_region ?_
    refine S_val rfl rfl (Y_loadAI 1 (und rfl) rfl rfl rfl (siz rfl) (dl_length _ _ _)) ?_
    refine S_callV rfl rfl (bod rfl) (fun w hs => smy _) rfl rfl ?_
    refine S_val rfl rfl (Y_move rfl) ?_
    refine S_val rfl rfl (Y_extract rfl rfl) ?_
    refine S_val rfl rfl (Y_extract rfl rfl) ?_
    refine S_val rfl rfl (Y_assign rfl) ?_
    refine S_val rfl rfl (Y_assign rfl) ?_
    refine S_nil ?_
    refine X_seq ?_
    refine T_seq ?_
    refine T_block ?_
    refine T_seq ?_
    refine T_region ?_
    refine S_val rfl rfl (Y_loadAI 1 (und rfl) rfl rfl rfl (siz rfl) (dl_length _ _ _)) ?_
    refine S_val rfl rfl (Y_build (und rfl) (siz rfl) (zer rfl) rfl rfl) ?_
    refine S_val rfl rfl (Y_eqlA_t (eqg rfl) (und rfl) (und rfl) (siz rfl) rfl rfl (dl_length _ _ _) (by assumption)) ?_
    refine S_val rfl rfl (Y_assign rfl) ?_
    refine S_nil ?_
    refine X_seq ?_
    refine T_cond_true rfl ?_
    refine T_seq ?_
    rename_i b0 b1 b2 b3 b4 b5
    refine T_drawL (.succ (.succ .zero)) [.fx (blk b2 (.cells (ints .u64 (List.replicate 4 0)) 47 (0, 0))), .fx (blk b3 (.cells (ints .u64 (List.replicate 4 0)) 47 (0, 0)))] [blk b0 (.cells (ints .u64 (dl 18446744073709551616 4 (x))) 47 (0, 0)), blk b1 (.cells (ints .u64 (dl 18446744073709551616 4 (y))) 47 (0, 0)), blk b4 (.cells (ints .u64 (List.replicate 4 0)) 47 (0, 0)), blk b5 (.cells (ints .u64 (List.replicate 4 0)) 47 (0, 0))] rfl (by kernel_rfl) (Emb.idx [0, 1, 4, 5, 2, 3] rfl rfl) rfl (by kernel_rfl) ?_
    refine D0_valM rfl rfl rfl (Y_loadAI 2 (und rfl) rfl rfl rfl (siz rfl) rfl) ?_
    refine D0_valM rfl rfl rfl (Y_loadAI 3 (und rfl) rfl rfl rfl (siz rfl) rfl) ?_
    refine D0_nilL ?_
    refine DL_storeAI rfl (fun _ => rfl) rfl (siz rfl) (fun _ => rfl) (fun _ => rfl) rfl rfl ?_
    refine DL_storeAI rfl (fun _ => rfl) rfl (siz rfl) (fun _ => rfl) (fun _ => rfl) rfl rfl ?_
    refine DL_nil fun _ => ?_
    refine X_seq ?_
    refine T_ret ?_
    refine X_blk_ret ?_
    refine X_seq_ret ?_
    ((first | refine X_fin_ret ?_ | refine X_fin ?_); exact ⟨[_, _], [], .cons (.agg 4 rfl (und rfl) rfl rfl (siz rfl)) (.cons (.agg 5 rfl (und rfl) rfl rfl (siz rfl)) .nil), Emb.nil _, by unfold remN; rw [if_pos h0, h0, Nat.div_zero]; rfl, rfl⟩)
  · have ey : ¬ dl 18446744073709551616 4 y = fillI (List.replicate 4 0) [] := by rw [← e_zero]; exact W_ne hy (by omega) h0
    have hr : remN x y = x % y := by unfold remN; rw [if_neg h0]
    rw [hr]
    by_cases hys : y < 18446744073709551616
    · rw [if_pos hys, decide_eq_true hys] at smy
      by_cases hxs : x < 18446744073709551616
      · rw [if_pos hxs, decide_eq_true hxs] at smx
        have hq : x / y < 18446744073709551616 := Nat.lt_of_le_of_lt (Nat.div_le_self _ _) hxs
        have hm : x % y < 18446744073709551616 := Nat.lt_of_le_of_lt (Nat.mod_le _ _) hxs
        refine Fn_of (args := [W x, W y]) Tryd.func32 rfl Tryd.ntmps32 Tryd.results32 (by simp) ?_
        refine T_seq ?_
        refine T_region ?_
        refine S_boxA rfl rfl rfl fun _ => ?_
        refine S_boxA rfl rfl rfl fun _ => ?_
        refine S_allocA (zer rfl) rfl rfl fun _ => ?_
        refine S_allocA (zer rfl) rfl rfl fun _ => ?_
        refine S_nil ?_
        refine X_seq ?_
        refine T_seq ?_
        refine T_region ?_
        refine S_allocA (zer rfl) rfl rfl fun _ => ?_
        refine S_allocA (zer rfl) rfl rfl fun _ => ?_
        refine S_nil ?_
        refine X_seq ?_
        refine T_seq ?_
        refine T_region ?_
        refine S_val rfl rfl (Y_loadAI 0 (und rfl) rfl rfl rfl (siz rfl) (dl_length _ _ _)) ?_
        refine S_callV rfl rfl (bod rfl) (fun w hs => smx _) rfl rfl ?_
        refine S_val rfl rfl (Y_move rfl) ?_
        refine S_val rfl rfl (Y_extract rfl rfl) ?_
        refine S_val rfl rfl (Y_extract rfl rfl) ?_
        refine S_val rfl rfl (Y_assign rfl) ?_
        refine S_val rfl rfl (Y_assign rfl) ?_
        refine S_nil ?_
        refine X_seq ?_
        refine T_seq ?_
        refine T_region ?_
        refine S_val rfl rfl (Y_loadAI 1 (und rfl) rfl rfl rfl (siz rfl) (dl_length _ _ _)) ?_
        refine S_callV rfl rfl (bod rfl) (fun w hs => smy _) rfl rfl ?_
        refine S_val rfl rfl (Y_move rfl) ?_
        refine S_val rfl rfl (Y_extract rfl rfl) ?_
        refine S_val rfl rfl (Y_extract rfl rfl) ?_
        refine S_val rfl rfl (Y_assign rfl) ?_
        refine S_val rfl rfl (Y_assign rfl) ?_
        refine S_nil ?_
        refine X_seq ?_
        refine T_seq ?_
        refine T_block ?_
        refine T_seq ?_
        refine T_region ?_
        refine S_val rfl rfl (Y_loadAI 1 (und rfl) rfl rfl rfl (siz rfl) (dl_length _ _ _)) ?_
        refine S_val rfl rfl (Y_build (und rfl) (siz rfl) (zer rfl) rfl rfl) ?_
        refine S_val rfl rfl (Y_eqlA_f (eqg rfl) (und rfl) (und rfl) (siz rfl) rfl rfl (dl_length _ _ _) rfl (by assumption)) ?_
        refine S_val rfl rfl (Y_assign rfl) ?_
        refine S_nil ?_
        refine X_seq ?_
        refine T_cond_false rfl ?_
        refine T_seq ?_
        refine T_region ?_
        refine S_val rfl rfl (Y_move rfl) ?_
        refine S_val rfl rfl (Y_move rfl) ?_
        refine S_val rfl rfl (Y_move rfl) ?_
        refine S_val rfl rfl (Y_pick_t rfl rfl) ?_
        refine S_val rfl rfl (Y_assign rfl) ?_
        refine S_nil ?_
        refine X_seq ?_
        refine T_cond_true rfl ?_
        refine T_seq ?_
        rename_i b0 b1 b2 b3 b4 b5
        refine T_drawL (.succ (.succ (.succ (.succ (.succ (.succ (.succ (.succ .zero)))))))) [.fx (blk b2 (.cells (ints .u64 (List.replicate 4 0)) 47 (0, 0))), .fx (blk b3 (.cells (ints .u64 (List.replicate 4 0)) 47 (0, 0)))] [blk b0 (.cells (ints .u64 (dl 18446744073709551616 4 (x))) 47 (0, 0)), blk b1 (.cells (ints .u64 (dl 18446744073709551616 4 (y))) 47 (0, 0)), blk b4 (.cells (ints .u64 (List.replicate 4 0)) 47 (0, 0)), blk b5 (.cells (ints .u64 (List.replicate 4 0)) 47 (0, 0))] rfl (by kernel_rfl) (Emb.idx [0, 1, 4, 5, 2, 3] rfl rfl) rfl (by kernel_rfl) ?_
        refine D0_val rfl rfl rfl (Y_move rfl) ?_
        refine D0_val rfl rfl rfl (Y_move rfl) ?_
        refine D0_val rfl rfl rfl (Y_quoN rfl rfl (nat_cast _) (nat_cast _) (by omega) (by first | with_reducible exact xi64 (by omega) | with_reducible exact x64 (by omega) | with_reducible exact x8 (by omega) | with_reducible exact x32 (by omega))) ?_
        refine D0_callV rfl rfl (bod rfl) (fun w hs => of_any _ hq _) rfl rfl ?_
        refine D0_val rfl rfl rfl (Y_move rfl) ?_
        refine D0_val rfl rfl rfl (Y_move rfl) ?_
        refine D0_val rfl rfl rfl (Y_remN rfl rfl (nat_cast _) (nat_cast _) (by omega)) ?_
        refine D0_callV rfl rfl (bod rfl) (fun w hs => of_any _ hm _) rfl rfl ?_
        refine D0_nilL ?_
        refine DL_storeAI rfl (fun _ => rfl) rfl (siz rfl) (fun _ => rfl) (fun _ => rfl) rfl (dl_length _ _ _) ?_
        refine DL_storeAI rfl (fun _ => rfl) rfl (siz rfl) (fun _ => rfl) (fun _ => rfl) rfl (dl_length _ _ _) ?_
        refine DL_nil fun _ => ?_
        refine X_seq ?_
        refine T_ret ?_
        refine X_blk_ret ?_
        refine X_seq_ret ?_
        ((first | refine X_fin_ret ?_ | refine X_fin ?_); exact ⟨[_, _], [], .cons (.agg 4 rfl (und rfl) rfl rfl (siz rfl)) (.cons (.agg 5 rfl (und rfl) rfl rfl (siz rfl)) .nil), Emb.nil _, rfl, rfl⟩)
      · rw [if_neg hxs, decide_eq_false hxs] at smx
        refine Fn_of (args := [W x, W y]) Tryd.func32 rfl Tryd.ntmps32 Tryd.results32 (by simp) ?_
        refine T_seq ?_
        refine T_region ?_
        refine S_boxA rfl rfl rfl fun _ => ?_
        refine S_boxA rfl rfl rfl fun _ => ?_
        refine S_allocA (zer rfl) rfl rfl fun _ => ?_
        refine S_allocA (zer rfl) rfl rfl fun _ => ?_
        refine S_nil ?_
        refine X_seq ?_
        refine T_seq ?_
        refine T_region ?_
        refine S_allocA (zer rfl) rfl rfl fun _ => ?_
        refine S_allocA (zer rfl) rfl rfl fun _ => ?_
        refine S_nil ?_
        refine X_seq ?_
        refine T_seq ?_
        refine T_region ?_
        refine S_val rfl rfl (Y_loadAI 0 (und rfl) rfl rfl rfl (siz rfl) (dl_length _ _ _)) ?_
        refine S_callV rfl rfl (bod rfl) (fun w hs => smx _) rfl rfl ?_
        refine S_val rfl rfl (Y_move rfl) ?_
        refine S_val rfl rfl (Y_extract rfl rfl) ?_
        refine S_val rfl rfl (Y_extract rfl rfl) ?_
        refine S_val rfl rfl (Y_assign rfl) ?_
        refine S_val rfl rfl (Y_assign rfl) ?_
        refine S_nil ?_
        refine X_seq ?_
        refine T_seq ?_
        refine T_region ?_
        refine S_val rfl rfl (Y_loadAI 1 (und rfl) rfl rfl rfl (siz rfl) (dl_length _ _ _)) ?_
        refine S_callV rfl rfl (bod rfl) (fun w hs => smy _) rfl rfl ?_
        refine S_val rfl rfl (Y_move rfl) ?_
        refine S_val rfl rfl (Y_extract rfl rfl) ?_
        refine S_val rfl rfl (Y_extract rfl rfl) ?_
        refine S_val rfl rfl (Y_assign rfl) ?_
        refine S_val rfl rfl (Y_assign rfl) ?_
        refine S_nil ?_
        refine X_seq ?_
        refine T_seq ?_
        refine T_block ?_
        refine T_seq ?_
        refine T_region ?_
        refine S_val rfl rfl (Y_loadAI 1 (und rfl) rfl rfl rfl (siz rfl) (dl_length _ _ _)) ?_
        refine S_val rfl rfl (Y_build (und rfl) (siz rfl) (zer rfl) rfl rfl) ?_
        refine S_val rfl rfl (Y_eqlA_f (eqg rfl) (und rfl) (und rfl) (siz rfl) rfl rfl (dl_length _ _ _) rfl (by assumption)) ?_
        refine S_val rfl rfl (Y_assign rfl) ?_
        refine S_nil ?_
        refine X_seq ?_
        refine T_cond_false rfl ?_
        refine T_seq ?_
        refine T_region ?_
        refine S_val rfl rfl (Y_move rfl) ?_
        refine S_val rfl rfl (Y_move rfl) ?_
        refine S_skip rfl rfl ?_
        refine S_val rfl rfl (Y_pick_f rfl rfl) ?_
        refine S_val rfl rfl (Y_assign rfl) ?_
        refine S_nil ?_
        refine X_seq ?_
        refine T_cond_false rfl ?_
        refine T_seq ?_
        refine T_region ?_
        refine S_val rfl rfl (Y_move rfl) ?_
        refine S_val rfl rfl (Y_assign rfl) ?_
        refine S_nil ?_
        refine X_seq ?_
        refine T_cond_true rfl ?_
        refine T_seq ?_
        refine T_region ?_
        refine S_val rfl rfl (Y_loadAI 0 (und rfl) rfl rfl rfl (siz rfl) (dl_length _ _ _)) ?_
        refine S_val rfl rfl (Y_move rfl) ?_
        refine S_callV rfl rfl (bod rfl) (fun w hs => short_any x y hx (by omega) hys _) rfl rfl ?_
        refine S_val rfl rfl (Y_extract rfl rfl) ?_
        refine S_val rfl rfl (Y_extract rfl rfl) ?_
        refine S_storeAI 2 (siz rfl) rfl rfl rfl rfl (dl_length _ _ _) rfl ?_
        refine S_storeAI 3 (siz rfl) rfl rfl rfl rfl (dl_length _ _ _) rfl ?_
        refine S_nil ?_
        refine X_seq ?_
        refine T_ret ?_
        refine X_blk_ret ?_
        refine X_seq_ret ?_
        ((first | refine X_fin_ret ?_ | refine X_fin ?_); exact ⟨[_, _], [], .cons (.agg 2 rfl (und rfl) rfl rfl (siz rfl)) (.cons (.agg 3 rfl (und rfl) rfl rfl (siz rfl)) .nil), Emb.nil _, rfl, rfl⟩)
    · rw [if_neg hys, decide_eq_false hys] at smy
      have hy0 : 0 < y := by omega
      have hbl := bitLen_256 x hx
      have hlen : ∀ w, Fn Tryd.prog 28 #[W x] w fun v N => v = .int .i64 ((bitLen x : Nat) : Int) ∧ N = [] := len_any x hx
      have hx0 := bitLen_pow x
      generalize bitLen x = n at *
      obtain ⟨bx, hbx⟩ : ∃ b : Bool, b = decide (x < 18446744073709551616) := ⟨_, rfl⟩
      rw [← hbx] at smx
      clear hbx
      obtain ⟨sx, hsx⟩ : ∃ s : Nat, s = if x < 18446744073709551616 then x else 0 := ⟨_, rfl⟩
      rw [← hsx] at smx
      clear hsx
      have loop : ∀ (bx : Bool), (∀ w, Fn Tryd.prog 24 #[W x] w fun v N => v = .tuple #[.int .u64 ((sx : Nat) : Int), .bool bx] ∧ N = []) →
          Fn Tryd.prog 32 #[W x, W y] w fun v N => v = .tuple #[W (x / y), W (x % y)] ∧ N = [] := by
        intro bx smx
        cases bx
        all_goals
          refine Fn_of (args := [W x, W y]) Tryd.func32 rfl Tryd.ntmps32 Tryd.results32 (by simp) ?_
          refine T_seq ?_
          refine T_region ?_
          refine S_boxA rfl rfl rfl fun _ => ?_
          refine S_boxA rfl rfl rfl fun _ => ?_
          refine S_allocA (zer rfl) rfl rfl fun _ => ?_
          refine S_allocA (zer rfl) rfl rfl fun _ => ?_
          refine S_nil ?_
          refine X_seq ?_
          refine T_seq ?_
          refine T_region ?_
          refine S_allocA (zer rfl) rfl rfl fun _ => ?_
          refine S_allocA (zer rfl) rfl rfl fun _ => ?_
          refine S_nil ?_
          refine X_seq ?_
          refine T_seq ?_
          refine T_region ?_
          refine S_val rfl rfl (Y_loadAI 0 (und rfl) rfl rfl rfl (siz rfl) (dl_length _ _ _)) ?_
          refine S_callV rfl rfl (bod rfl) (fun w hs => smx _) rfl rfl ?_
          refine S_val rfl rfl (Y_move rfl) ?_
          refine S_val rfl rfl (Y_extract rfl rfl) ?_
          refine S_val rfl rfl (Y_extract rfl rfl) ?_
          refine S_val rfl rfl (Y_assign rfl) ?_
          refine S_val rfl rfl (Y_assign rfl) ?_
          refine S_nil ?_
          refine X_seq ?_
          refine T_seq ?_
          refine T_region ?_
          refine S_val rfl rfl (Y_loadAI 1 (und rfl) rfl rfl rfl (siz rfl) (dl_length _ _ _)) ?_
          refine S_callV rfl rfl (bod rfl) (fun w hs => smy _) rfl rfl ?_
          first | (refine S_val rfl rfl (Y_move rfl) ?_; refine S_val rfl rfl (Y_extract rfl rfl) ?_; refine S_val rfl rfl (Y_extract rfl rfl) ?_; refine S_val rfl rfl (Y_assign rfl) ?_; refine S_val rfl rfl (Y_assign rfl) ?_; refine S_nil ?_; refine X_seq ?_; refine T_seq ?_; refine T_block ?_; refine T_seq ?_; refine T_region ?_; refine S_val rfl rfl (Y_loadAI 1 (und rfl) rfl rfl rfl (siz rfl) (dl_length _ _ _)) ?_; refine S_val rfl rfl (Y_build (und rfl) (siz rfl) (zer rfl) rfl rfl) ?_; refine S_val rfl rfl (Y_eqlA_f (eqg rfl) (und rfl) (und rfl) (siz rfl) rfl rfl (dl_length _ _ _) rfl (by assumption)) ?_; refine S_val rfl rfl (Y_assign rfl) ?_; refine S_nil ?_; refine X_seq ?_; refine T_cond_false rfl ?_; refine T_seq ?_; refine T_region ?_; refine S_val rfl rfl (Y_move rfl) ?_; refine S_val rfl rfl (Y_move rfl) ?_; refine S_val rfl rfl (Y_move rfl) ?_; refine S_val rfl rfl (Y_pick_t rfl rfl) ?_; refine S_val rfl rfl (Y_assign rfl) ?_; refine S_nil ?_; refine X_seq ?_; refine T_cond_false rfl ?_; refine T_seq ?_; refine T_region ?_; refine S_val rfl rfl (Y_move rfl) ?_; refine S_val rfl rfl (Y_assign rfl) ?_; refine S_nil ?_; refine X_seq ?_; refine T_cond_false rfl ?_; refine T_skip ?_; refine X_blk ?_; refine X_seq ?_; refine T_seq ?_; refine T_seq ?_; refine T_region ?_; refine S_val rfl rfl (Y_loadAI 0 (und rfl) rfl rfl rfl (siz rfl) (dl_length _ _ _)) ?_) | (refine S_val rfl rfl (Y_move rfl) ?_; refine S_val rfl rfl (Y_extract rfl rfl) ?_; refine S_val rfl rfl (Y_extract rfl rfl) ?_; refine S_val rfl rfl (Y_assign rfl) ?_; refine S_val rfl rfl (Y_assign rfl) ?_; refine S_nil ?_; refine X_seq ?_; refine T_seq ?_; refine T_block ?_; refine T_seq ?_; refine T_region ?_; refine S_val rfl rfl (Y_loadAI 1 (und rfl) rfl rfl rfl (siz rfl) (dl_length _ _ _)) ?_; refine S_val rfl rfl (Y_build (und rfl) (siz rfl) (zer rfl) rfl rfl) ?_; refine S_val rfl rfl (Y_eqlA_f (eqg rfl) (und rfl) (und rfl) (siz rfl) rfl rfl (dl_length _ _ _) rfl (by assumption)) ?_; refine S_val rfl rfl (Y_assign rfl) ?_; refine S_nil ?_; refine X_seq ?_; refine T_cond_false rfl ?_; refine T_seq ?_; refine T_region ?_; refine S_val rfl rfl (Y_move rfl) ?_; refine S_val rfl rfl (Y_move rfl) ?_; refine S_skip rfl rfl ?_; refine S_val rfl rfl (Y_pick_f rfl rfl) ?_; refine S_val rfl rfl (Y_assign rfl) ?_; refine S_nil ?_; refine X_seq ?_; refine T_cond_false rfl ?_; refine T_seq ?_; refine T_region ?_; refine S_val rfl rfl (Y_move rfl) ?_; refine S_val rfl rfl (Y_assign rfl) ?_; refine S_nil ?_; refine X_seq ?_; refine T_cond_false rfl ?_; refine T_skip ?_; refine X_blk ?_; refine X_seq ?_; refine T_seq ?_; refine T_seq ?_; refine T_region ?_; refine S_val rfl rfl (Y_loadAI 0 (und rfl) rfl rfl rfl (siz rfl) (dl_length _ _ _)) ?_)
          refine S_callV rfl rfl (bod rfl) (fun w hs => hlen _) rfl rfl ?_
          refine S_val rfl rfl (Y_sub rfl rfl (wi64 (by omega) (by omega))) ?_
          refine S_val rfl rfl (Y_assign rfl) ?_
          refine S_nil ?_
          refine X_seq ?_
          refine T_block ?_
          rename_i b0 b1 b2 b3 b4 b5
          refine T_loopE (α := Nat) (fun j => j ≤ 256)
            (fun j => [(2, .pointer (some ⟨b0, 0, none⟩)), (3, .pointer (some ⟨b1, 0, none⟩)), (4, .pointer (some ⟨b2, 0, none⟩)), (5, .pointer (some ⟨b3, 0, none⟩)), (6, .pointer (some ⟨b4, 0, none⟩)), (7, .pointer (some ⟨b5, 0, none⟩)), (12, .int .i64 ((j : Int) - 1))])
            (fun j => [blk b0 (.cells (ints .u64 (dl 18446744073709551616 4 (x))) 47 (0, 0)), blk b1 (.cells (ints .u64 (dl 18446744073709551616 4 (y))) 47 (0, 0)), blk b2 (.cells (ints .u64 (List.replicate 4 0)) 47 (0, 0)), blk b3 (.cells (ints .u64 (List.replicate 4 0)) 47 (0, 0)), blk b4 (.cells (ints .u64 (dl 18446744073709551616 4 (x / 2 ^ j / y * 2 ^ j))) 47 (0, 0)), blk b5 (.cells (ints .u64 (dl 18446744073709551616 4 (x / 2 ^ j % y))) 47 (0, 0))])
            (fun j => j) n hbl (by repeat (first | exact Env.sub_nil _ | (apply Env.sub_cons; rfl))) (by rw [hx0, Nat.zero_mod, Nat.zero_div, Nat.zero_mul]; exact Emb.refl _) ?_
          intro j hj
          by_cases hj0 : j = 0
          · subst hj0
            refine T_seq ?_
            refine T_seq ?_
            refine T_region ?_
            refine S_val rfl rfl (Y_move rfl) ?_
            refine S_val rfl rfl (Y_geq_f rfl rfl (by decide)) ?_
            refine S_nil ?_
            refine X_seq ?_
            refine T_cond_false rfl ?_
            refine T_exit ?_
            refine X_seq_exit ?_
            refine X_loop_exit ?_
            refine X_blk_hit rfl ?_
            refine X_seq ?_
            refine T_seq ?_
            refine T_drawL (.succ (.succ .zero)) [.fx (blk b2 (.cells (ints .u64 (List.replicate 4 0)) 47 (0, 0))), .fx (blk b3 (.cells (ints .u64 (List.replicate 4 0)) 47 (0, 0)))] [blk b0 (.cells (ints .u64 (dl 18446744073709551616 4 (x))) 47 (0, 0)), blk b1 (.cells (ints .u64 (dl 18446744073709551616 4 (y))) 47 (0, 0)), blk b4 (.cells (ints .u64 (dl 18446744073709551616 4 (x / 2 ^ 0 / y * 2 ^ 0))) 47 (0, 0)), blk b5 (.cells (ints .u64 (dl 18446744073709551616 4 (x / 2 ^ 0 % y))) 47 (0, 0))] rfl (by kernel_rfl) (Emb.idx [0, 1, 4, 5, 2, 3] rfl rfl) rfl (by kernel_rfl) ?_
            refine D0_valM rfl rfl rfl (Y_loadAI 2 (und rfl) rfl rfl rfl (siz rfl) (dl_length _ _ _)) ?_
            refine D0_valM rfl rfl rfl (Y_loadAI 3 (und rfl) rfl rfl rfl (siz rfl) (dl_length _ _ _)) ?_
            refine D0_nilL ?_
            refine DL_storeAI rfl (fun _ => rfl) rfl (siz rfl) (fun _ => rfl) (fun _ => rfl) rfl (dl_length _ _ _) ?_
            refine DL_storeAI rfl (fun _ => rfl) rfl (siz rfl) (fun _ => rfl) (fun _ => rfl) rfl (dl_length _ _ _) ?_
            refine DL_nil fun _ => ?_
            refine X_seq ?_
            refine T_ret ?_
            ((first | refine X_fin_ret ?_ | refine X_fin ?_); exact ⟨[_, _], [], .cons (.agg 4 rfl (und rfl) rfl rfl (siz rfl)) (.cons (.agg 5 rfl (und rfl) rfl rfl (siz rfl)) .nil), Emb.nil _, by rw [Nat.pow_zero, Nat.div_one, Nat.mul_one]; rfl, rfl⟩)
          · obtain ⟨i, rfl⟩ : ∃ i, j = i + 1 := ⟨j - 1, by omega⟩
            rw [show (((i + 1 : Nat) : Int) - 1) = (i : Int) by omega]
            obtain ⟨_, hb2, hb3⟩ := bit_step (N := x) (i := i) hy0
            have hl := Nat.mod_lt (x / 2 ^ (i + 1)) hy0
            have hbl2 : x / 2 ^ i % 2 < 2 := Nat.mod_lt _ (by omega)
            have hbit := fun w => bit_any x i hx (by omega) w
            simp only [Nat.testBit_eq_decide_div_mod_eq] at hbit
            have hstep := fun w => step_any (x / 2 ^ (i + 1) % y) y (x / 2 ^ i % 2) hy hl hbl2 w
            rw [← hb3] at hstep
            generalize x / 2 ^ (i + 1) % y = l at *
            generalize hA : x / 2 ^ (i + 1) / y = A at *
            have hQb : A * 2 ^ (i + 1) % 2 ^ (i + 1) = 0 := Nat.mul_mod_left _ _
            have hsh : (1 * 2 ^ (i % 64) % 18446744073709551616) < 18446744073709551616 := Nat.mod_lt _ (by omega)
            have hdq := digit_lt (A * 2 ^ (i + 1)) (i / 64)
            have hfin : (x / 2 ^ i / y) * 2 ^ i = A * 2 ^ (i + 1) + (2 * l + x / 2 ^ i % 2) / y * 2 ^ i := by
              rw [hb2, Nat.add_mul, Nat.pow_succ, Nat.mul_comm 2 A, Nat.mul_assoc, Nat.mul_comm 2]
            generalize hbb : decide (x / 2 ^ i % 2 = 1) = bb at *
            generalize hr2 : x / 2 ^ i % y = r2 at *
            by_cases hge : y ≤ 2 * l + x / 2 ^ i % 2
            · rw [decide_eq_true hge] at hstep
              have hq1 : (2 * l + x / 2 ^ i % 2) / y = 1 := by
                have e : 2 * l + x / 2 ^ i % 2 = (2 * l + x / 2 ^ i % 2 - y) + 1 * y := by omega
                rw [e, Nat.add_mul_div_right _ _ hy0, Nat.div_eq_of_lt (by omega)]
              rw [hq1, Nat.one_mul] at hfin
              clear hb2 hb3 hbb
              refine T_seq ?_
              refine T_seq ?_
              refine T_region ?_
              refine S_val rfl rfl (Y_move rfl) ?_
              refine S_val rfl rfl (Y_geq_t rfl rfl (by omega)) ?_
              refine S_nil ?_
              refine X_seq ?_
              refine T_cond_true rfl ?_
              refine T_skip ?_
              refine X_seq ?_
              refine T_seq ?_
              refine T_block ?_
              refine T_seq ?_
              refine T_drawL (.succ (.succ (.succ (.succ (.succ (.succ (.succ (.succ (.succ (.succ .zero)))))))))) [.no, .nw 10 (.cells (ints .u64 (List.replicate 4 0)) 47), .no] [blk b0 (.cells (ints .u64 (dl 18446744073709551616 4 (x))) 47 (0, 0)), blk b1 (.cells (ints .u64 (dl 18446744073709551616 4 (y))) 47 (0, 0)), blk b2 (.cells (ints .u64 (List.replicate 4 0)) 47 (0, 0)), blk b3 (.cells (ints .u64 (List.replicate 4 0)) 47 (0, 0)), blk b4 (.cells (ints .u64 (dl 18446744073709551616 4 (A * 2 ^ (i + 1)))) 47 (0, 0)), blk b5 (.cells (ints .u64 (dl 18446744073709551616 4 (l))) 47 (0, 0))] rfl (by kernel_rfl) (Emb.idx [0, 1, 2, 3, 4, 5] rfl rfl) rfl (by kernel_rfl) ?_
              refine D0_valM rfl rfl rfl (Y_loadAI 5 (und rfl) rfl rfl rfl (siz rfl) (dl_length _ _ _)) ?_
              refine D0_valM rfl rfl rfl (Y_loadAI 1 (und rfl) rfl rfl rfl (siz rfl) (dl_length _ _ _)) ?_
              refine D0_valM rfl rfl rfl (Y_loadAI 0 (und rfl) rfl rfl rfl (siz rfl) (dl_length _ _ _)) ?_
              refine D0_val rfl rfl rfl (Y_move rfl) ?_
              refine D0_valM rfl rfl rfl (Y_conv (und rfl) (und rfl) rfl (wu64 (by omega) (by omega))) ?_
              refine D0_callV rfl rfl (bod rfl) (fun w hs => hbit _) rfl rfl ?_
              skip
              refine D0_callV rfl rfl (bod rfl) (fun w hs => hstep _) rfl rfl ?_
              refine D0_val rfl rfl rfl (Y_move rfl) ?_
              refine D0_val rfl rfl rfl (Y_extract rfl rfl) ?_
              refine D0_val rfl rfl rfl (Y_extract rfl rfl) ?_
              refine D0_nilL ?_
              refine DL_allocA (zer rfl) rfl rfl rfl rfl rfl rfl ?_
              refine DL_storeAI rfl (fun _ => rfl) rfl (siz rfl) (fun _ => rfl) (fun _ => rfl) rfl (dl_length _ _ _) ?_
              refine DL_val rfl rfl rfl rfl rfl rfl (fun _ => (Y_assign rfl)) ?_
              refine DL_nil fun _ => ?_
              refine X_seq ?_
              refine T_seq ?_
              refine T_region ?_
              refine S_val rfl rfl (Y_loadAI 6 (und rfl) rfl rfl rfl (siz rfl) (dl_length _ _ _)) ?_
              refine S_storeAI 5 (siz rfl) rfl rfl rfl (dl_length _ _ _) (dl_length _ _ _) rfl ?_
              refine S_nil ?_
              refine X_seq ?_
              refine T_seq ?_
              refine T_region ?_
              refine S_val rfl rfl (Y_move rfl) ?_
              refine S_nil ?_
              refine X_seq ?_
              refine T_cond_true rfl ?_
              refine T_draw (by kernel_rfl) (by kernel_rfl) rfl ?_
              refine D0_val rfl rfl rfl (Y_move rfl) ?_
              refine D0_val rfl rfl rfl (Y_quoN rfl rfl (nat_cast _) (nat_lit' _) (Nat.succ_ne_zero _) (by first | with_reducible exact xi64 (by omega) | with_reducible exact x64 (by omega) | with_reducible exact x8 (by omega) | with_reducible exact x32 (by omega))) ?_
              refine D0_val rfl rfl rfl (Y_ixa (und rfl) (siz rfl) rfl rfl (nat_cast _) (by omega)) ?_
              refine D0_valM rfl rfl rfl (Y_loadI 4 (und rfl) rfl rfl rfl (dl_get (by omega))) ?_
              refine D0_val rfl rfl rfl (Y_move rfl) ?_
              refine D0_val rfl rfl rfl (Y_remN rfl rfl (nat_cast _) (nat_lit' _) (Nat.succ_ne_zero _)) ?_
              refine D0_val rfl rfl rfl (Y_shlN rfl rfl (nat_lit' _) (nat_cast _) rfl pw64) ?_
              refine D0_val rfl rfl rfl (Y_or rfl rfl (nat_cast _) (nat_cast _) rfl (by simp only [IntKind.bits]; assumption) (by simp only [IntKind.bits]; assumption)) ?_
              refine D0_val rfl rfl rfl (Y_ixa (und rfl) (siz rfl) rfl rfl (nat_cast _) (by omega)) ?_
              refine D0_storeI 4 rfl (siz rfl) rfl rfl rfl (by simp; omega) rfl rfl ?_
              refine D0_nil ?_
              refine X_blk ?_
              refine X_seq ?_
              refine T_region ?_
              refine S_val rfl rfl (Y_move rfl) ?_
              refine S_val rfl rfl (Y_sub rfl rfl (wi64 (by omega) (by omega))) ?_
              refine S_val rfl rfl (Y_assign rfl) ?_
              refine S_nil ?_
              refine X_loop ?_
              refine ⟨i, by omega, by omega, (by repeat (first | exact Env.sub_nil _ | (apply Env.sub_cons; rfl))), ?_⟩
              rw [hfin, hr2, dl_orbit (by omega) hQb]
              exact Emb.idx [0, 1, 2, 3, 4, 5] rfl rfl
            · rw [decide_eq_false hge] at hstep
              have hq1 : (2 * l + x / 2 ^ i % 2) / y = 0 := Nat.div_eq_of_lt (by omega)
              rw [hq1, Nat.zero_mul, Nat.add_zero] at hfin
              clear hb2 hb3 hbb
              refine T_seq ?_
              refine T_seq ?_
              refine T_region ?_
              refine S_val rfl rfl (Y_move rfl) ?_
              refine S_val rfl rfl (Y_geq_t rfl rfl (by omega)) ?_
              refine S_nil ?_
              refine X_seq ?_
              refine T_cond_true rfl ?_
              refine T_skip ?_
              refine X_seq ?_
              refine T_seq ?_
              refine T_block ?_
              refine T_seq ?_
              refine T_drawL (.succ (.succ (.succ (.succ (.succ (.succ (.succ (.succ (.succ (.succ .zero)))))))))) [.no, .nw 10 (.cells (ints .u64 (List.replicate 4 0)) 47), .no] [blk b0 (.cells (ints .u64 (dl 18446744073709551616 4 (x))) 47 (0, 0)), blk b1 (.cells (ints .u64 (dl 18446744073709551616 4 (y))) 47 (0, 0)), blk b2 (.cells (ints .u64 (List.replicate 4 0)) 47 (0, 0)), blk b3 (.cells (ints .u64 (List.replicate 4 0)) 47 (0, 0)), blk b4 (.cells (ints .u64 (dl 18446744073709551616 4 (A * 2 ^ (i + 1)))) 47 (0, 0)), blk b5 (.cells (ints .u64 (dl 18446744073709551616 4 (l))) 47 (0, 0))] rfl (by kernel_rfl) (Emb.idx [0, 1, 2, 3, 4, 5] rfl rfl) rfl (by kernel_rfl) ?_
              refine D0_valM rfl rfl rfl (Y_loadAI 5 (und rfl) rfl rfl rfl (siz rfl) (dl_length _ _ _)) ?_
              refine D0_valM rfl rfl rfl (Y_loadAI 1 (und rfl) rfl rfl rfl (siz rfl) (dl_length _ _ _)) ?_
              refine D0_valM rfl rfl rfl (Y_loadAI 0 (und rfl) rfl rfl rfl (siz rfl) (dl_length _ _ _)) ?_
              refine D0_val rfl rfl rfl (Y_move rfl) ?_
              refine D0_valM rfl rfl rfl (Y_conv (und rfl) (und rfl) rfl (wu64 (by omega) (by omega))) ?_
              refine D0_callV rfl rfl (bod rfl) (fun w hs => hbit _) rfl rfl ?_
              skip
              refine D0_callV rfl rfl (bod rfl) (fun w hs => hstep _) rfl rfl ?_
              refine D0_val rfl rfl rfl (Y_move rfl) ?_
              refine D0_val rfl rfl rfl (Y_extract rfl rfl) ?_
              refine D0_val rfl rfl rfl (Y_extract rfl rfl) ?_
              refine D0_nilL ?_
              refine DL_allocA (zer rfl) rfl rfl rfl rfl rfl rfl ?_
              refine DL_storeAI rfl (fun _ => rfl) rfl (siz rfl) (fun _ => rfl) (fun _ => rfl) rfl (dl_length _ _ _) ?_
              refine DL_val rfl rfl rfl rfl rfl rfl (fun _ => (Y_assign rfl)) ?_
              refine DL_nil fun _ => ?_
              refine X_seq ?_
              refine T_seq ?_
              refine T_region ?_
              refine S_val rfl rfl (Y_loadAI 6 (und rfl) rfl rfl rfl (siz rfl) (dl_length _ _ _)) ?_
              refine S_storeAI 5 (siz rfl) rfl rfl rfl (dl_length _ _ _) (dl_length _ _ _) rfl ?_
              refine S_nil ?_
              refine X_seq ?_
              refine T_seq ?_
              refine T_region ?_
              refine S_val rfl rfl (Y_move rfl) ?_
              refine S_nil ?_
              refine X_seq ?_
              refine T_cond_false rfl ?_
              refine T_skip ?_
              refine X_blk ?_
              refine X_seq ?_
              refine T_region ?_
              refine S_val rfl rfl (Y_move rfl) ?_
              refine S_val rfl rfl (Y_sub rfl rfl (wi64 (by omega) (by omega))) ?_
              refine S_val rfl rfl (Y_assign rfl) ?_
              refine S_nil ?_
              skip
              refine X_loop ?_
              refine ⟨i, by omega, by omega, (by repeat (first | exact Env.sub_nil _ | (apply Env.sub_cons; rfl))), ?_⟩
              rw [hfin, hr2]
              exact Emb.idx [0, 1, 2, 3, 4, 5] rfl rfl
      exact loop bx smx
end Go.Proofs.YtchoncjikdfbgaaDoor
