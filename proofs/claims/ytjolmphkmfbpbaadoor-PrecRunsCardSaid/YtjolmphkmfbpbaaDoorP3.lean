import Derived.Test.YtjolmphkmfbpbaaDoorRows
import Derived.LaidMore
import Derived.Lay
import Derived.ProofKit
import Derived.OpenShut
import Derived.Test.YtjolmphkmfbpbaaDoorP0
import Derived.Test.YtjolmphkmfbpbaaDoorP1
import Derived.Test.YtjolmphkmfbpbaaDoorP2
/- The quotient of two words. -/
namespace Go.Proofs.YtjolmphkmfbpbaaDoor
open Go.RowKit
set_option maxRecDepth 20000
set_option maxHeartbeats 4000000
/-- What is left; of what is divided by 0: nothing. -/
def remN (x y : Nat) : Nat := if y = 0 then 0 else x % y
theorem bitLen_pow (x : Nat) : x / 2 ^ bitLen x = 0 := by
  refine Nat.div_eq_of_lt ?_
  unfold bitLen
  split
  · rename_i h; subst h; decide
  · rename_i h0
    exact (Nat.log2_lt h0).1 (Nat.lt_succ_self _)
theorem bitLen_256 (x : Nat) (h : x < 2 ^ 256) : bitLen x ≤ 256 := by
  unfold bitLen
  split
  · omega
  · rename_i h0
    have := (Nat.log2_lt h0).2 h
    omega
theorem e_zero : dl 18446744073709551616 4 0 = fillI (List.replicate 4 0) [] := by decide +kernel
theorem wdiv_any (x y : Nat) (hx : x < 2 ^ 256) (hy : y < 2 ^ 256) (w : World) :
    Fn Tryd.prog 36 #[W x, W y] w fun v N => v = .tuple #[W (x / y), W (remN x y)] ∧ N = [] := by
  have smx := small_any x hx
  have smy := small_any y hy
  by_cases h0 : y = 0
  · have ey : dl 18446744073709551616 4 y = fillI (List.replicate 4 0) [] := by rw [h0]; exact e_zero
    refine Fn_of (args := [W x, W y]) Tryd.func36 rfl Tryd.ntmps36 Tryd.results36 (by simp) ?_
    refine T_sr ?_
    refine S_boxA rfl rfl rfl fun _ => ?_
    refine S_boxA rfl rfl rfl fun _ => ?_
    refine S_allocA (zer rfl) rfl rfl fun _ => ?_
    refine S_allocA (zer rfl) rfl rfl fun _ => ?_
    refine S_nx ?_
    refine T_sr ?_
    refine S_allocA (zer rfl) rfl rfl fun _ => ?_
    refine S_allocA (zer rfl) rfl rfl fun _ => ?_
    refine S_nx ?_
    refine T_sr ?_
    refine S_val rfl rfl (Y_loadAI 0 (und rfl) rfl rfl rfl (siz rfl) (dl_length _ _ _)) ?_
    refine S_callV rfl rfl (bod rfl) (fun w hs => smx _) rfl rfl ?_
    refine S_mv rfl rfl rfl ?_
    refine S_val rfl rfl (Y_extract rfl rfl) ?_
    refine S_val rfl rfl (Y_extract rfl rfl) ?_
    refine S_as rfl rfl rfl ?_
    refine S_as rfl rfl rfl ?_
    refine S_nx ?_
    refine T_sr ?_
    refine S_val rfl rfl (Y_loadAI 1 (und rfl) rfl rfl rfl (siz rfl) (dl_length _ _ _)) ?_
    refine S_callV rfl rfl (bod rfl) (fun w hs => smy _) rfl rfl ?_
    refine S_mv rfl rfl rfl ?_
    refine S_val rfl rfl (Y_extract rfl rfl) ?_
    refine S_val rfl rfl (Y_extract rfl rfl) ?_
    refine S_as rfl rfl rfl ?_
    refine S_as rfl rfl rfl ?_
    refine S_nx ?_
    refine T_seq ?_
    refine T_block ?_
    refine T_sr ?_
    refine S_val rfl rfl (Y_loadAI 1 (und rfl) rfl rfl rfl (siz rfl) (dl_length _ _ _)) ?_
    refine S_val rfl rfl (Y_build (und rfl) (siz rfl) (zer rfl) rfl rfl) ?_
    refine S_val rfl rfl (Y_eqlA_t (eqg rfl) (und rfl) (und rfl) (siz rfl) rfl rfl (dl_length _ _ _) (by assumption)) ?_
    refine S_as rfl rfl rfl ?_
    refine S_nx ?_
    refine T_cond_true rfl ?_
    refine T_seq ?_
    rename_i b0 b1 b2 b3 b4 b5
    refine T_drawL (.succ (.succ .zero)) [.fx (blk b2 (.cells (ints .u64 (List.replicate 4 0)) 50 (0, 0))), .fx (blk b3 (.cells (ints .u64 (List.replicate 4 0)) 50 (0, 0)))] [blk b0 (.cells (ints .u64 (dl 18446744073709551616 4 (x))) 50 (0, 0)), blk b1 (.cells (ints .u64 (dl 18446744073709551616 4 (y))) 50 (0, 0)), blk b4 (.cells (ints .u64 (List.replicate 4 0)) 50 (0, 0)), blk b5 (.cells (ints .u64 (List.replicate 4 0)) 50 (0, 0))] rfl (by kernel_rfl) (Emb.idx [0, 1, 4, 5, 2, 3] rfl rfl) rfl (by kernel_rfl) ?_
    refine D0_valM rfl rfl rfl (Y_loadAI 2 (und rfl) rfl rfl rfl (siz rfl) rfl) ?_
    refine D0_valM rfl rfl rfl (Y_loadAI 3 (und rfl) rfl rfl rfl (siz rfl) rfl) ?_
    refine D0_nilL ?_
    refine DL_storeAI rfl (fun _ => rfl) rfl (siz rfl) (fun _ => rfl) (fun _ => rfl) rfl rfl ?_
    refine DL_storeAI rfl (fun _ => rfl) rfl (siz rfl) (fun _ => rfl) (fun _ => rfl) rfl rfl ?_
    refine DL_nil fun _ => ?_
    refine X_seq ?_
    refine T_ret ?_
    refine X_blk_ret ?_
    refine X_seq_ret ?_
    ((first | refine X_fin_ret ?_ | refine X_fin ?_); exact ⟨[_, _], [], .cons (.agg 4 rfl (und rfl) rfl rfl (siz rfl)) (.cons (.agg 5 rfl (und rfl) rfl rfl (siz rfl)) .nil), Emb.nil _, by unfold remN; rw [if_pos h0, h0, Nat.div_zero]; rfl, rfl⟩)
  · have ey : ¬ dl 18446744073709551616 4 y = fillI (List.replicate 4 0) [] := by rw [← e_zero]; exact W_ne hy (by omega) h0
    have hr : remN x y = x % y := by unfold remN; rw [if_neg h0]
    rw [hr]
    by_cases hys : y < 18446744073709551616
    · rw [if_pos hys, decide_eq_true hys] at smy
      by_cases hxs : x < 18446744073709551616
      · rw [if_pos hxs, decide_eq_true hxs] at smx
        have hq : x / y < 18446744073709551616 := Nat.lt_of_le_of_lt (Nat.div_le_self _ _) hxs
        have hm : x % y < 18446744073709551616 := Nat.lt_of_le_of_lt (Nat.mod_le _ _) hxs
        refine Fn_of (args := [W x, W y]) Tryd.func36 rfl Tryd.ntmps36 Tryd.results36 (by simp) ?_
        refine T_sr ?_
        refine S_boxA rfl rfl rfl fun _ => ?_
        refine S_boxA rfl rfl rfl fun _ => ?_
        refine S_allocA (zer rfl) rfl rfl fun _ => ?_
        refine S_allocA (zer rfl) rfl rfl fun _ => ?_
        refine S_nx ?_
        refine T_sr ?_
        refine S_allocA (zer rfl) rfl rfl fun _ => ?_
        refine S_allocA (zer rfl) rfl rfl fun _ => ?_
        refine S_nx ?_
        refine T_sr ?_
        refine S_val rfl rfl (Y_loadAI 0 (und rfl) rfl rfl rfl (siz rfl) (dl_length _ _ _)) ?_
        refine S_callV rfl rfl (bod rfl) (fun w hs => smx _) rfl rfl ?_
        refine S_mv rfl rfl rfl ?_
        refine S_val rfl rfl (Y_extract rfl rfl) ?_
        refine S_val rfl rfl (Y_extract rfl rfl) ?_
        refine S_as rfl rfl rfl ?_
        refine S_as rfl rfl rfl ?_
        refine S_nx ?_
        refine T_sr ?_
        refine S_val rfl rfl (Y_loadAI 1 (und rfl) rfl rfl rfl (siz rfl) (dl_length _ _ _)) ?_
        refine S_callV rfl rfl (bod rfl) (fun w hs => smy _) rfl rfl ?_
        refine S_mv rfl rfl rfl ?_
        refine S_val rfl rfl (Y_extract rfl rfl) ?_
        refine S_val rfl rfl (Y_extract rfl rfl) ?_
        refine S_as rfl rfl rfl ?_
        refine S_as rfl rfl rfl ?_
        refine S_nx ?_
        refine T_seq ?_
        refine T_block ?_
        refine T_sr ?_
        refine S_val rfl rfl (Y_loadAI 1 (und rfl) rfl rfl rfl (siz rfl) (dl_length _ _ _)) ?_
        refine S_val rfl rfl (Y_build (und rfl) (siz rfl) (zer rfl) rfl rfl) ?_
        refine S_val rfl rfl (Y_eqlA_f (eqg rfl) (und rfl) (und rfl) (siz rfl) rfl rfl (dl_length _ _ _) rfl (by assumption)) ?_
        refine S_as rfl rfl rfl ?_
        refine S_nx ?_
        refine T_cond_false rfl ?_
        refine T_sr ?_
        refine S_mv rfl rfl rfl ?_
        refine S_mv rfl rfl rfl ?_
        refine S_mv rfl rfl rfl ?_
        refine S_val rfl rfl (Y_pick_t rfl rfl) ?_
        refine S_as rfl rfl rfl ?_
        refine S_nx ?_
        refine T_cond_true rfl ?_
        refine T_seq ?_
        rename_i b0 b1 b2 b3 b4 b5
        refine T_drawL (.succ (.succ (.succ (.succ (.succ (.succ (.succ (.succ .zero)))))))) [.fx (blk b2 (.cells (ints .u64 (List.replicate 4 0)) 50 (0, 0))), .fx (blk b3 (.cells (ints .u64 (List.replicate 4 0)) 50 (0, 0)))] [blk b0 (.cells (ints .u64 (dl 18446744073709551616 4 (x))) 50 (0, 0)), blk b1 (.cells (ints .u64 (dl 18446744073709551616 4 (y))) 50 (0, 0)), blk b4 (.cells (ints .u64 (List.replicate 4 0)) 50 (0, 0)), blk b5 (.cells (ints .u64 (List.replicate 4 0)) 50 (0, 0))] rfl (by kernel_rfl) (Emb.idx [0, 1, 4, 5, 2, 3] rfl rfl) rfl (by kernel_rfl) ?_
        refine D0_val rfl rfl rfl (Y_move rfl) ?_
        refine D0_val rfl rfl rfl (Y_move rfl) ?_
        refine D0_val rfl rfl rfl (Y_quoN rfl rfl (nat_cast _) (nat_cast _) (by omega) (by first | with_reducible exact xi64 (by omega) | with_reducible exact x64 (by omega) | with_reducible exact x8 (by omega) | with_reducible exact x32 (by omega))) ?_
        refine D0_callV rfl rfl (bod rfl) (fun w hs => of_any _ hq _) rfl rfl ?_
        refine D0_val rfl rfl rfl (Y_move rfl) ?_
        refine D0_val rfl rfl rfl (Y_move rfl) ?_
        refine D0_val rfl rfl rfl (Y_remN rfl rfl (nat_cast _) (nat_cast _) (by omega)) ?_
        refine D0_callV rfl rfl (bod rfl) (fun w hs => of_any _ hm _) rfl rfl ?_
        refine D0_nilL ?_
        refine DL_storeAI rfl (fun _ => rfl) rfl (siz rfl) (fun _ => rfl) (fun _ => rfl) rfl (dl_length _ _ _) ?_
        refine DL_storeAI rfl (fun _ => rfl) rfl (siz rfl) (fun _ => rfl) (fun _ => rfl) rfl (dl_length _ _ _) ?_
        refine DL_nil fun _ => ?_
        refine X_seq ?_
        refine T_ret ?_
        refine X_blk_ret ?_
        refine X_seq_ret ?_
        ((first | refine X_fin_ret ?_ | refine X_fin ?_); exact ⟨[_, _], [], .cons (.agg 4 rfl (und rfl) rfl rfl (siz rfl)) (.cons (.agg 5 rfl (und rfl) rfl rfl (siz rfl)) .nil), Emb.nil _, rfl, rfl⟩)
      · rw [if_neg hxs, decide_eq_false hxs] at smx
        refine Fn_of (args := [W x, W y]) Tryd.func36 rfl Tryd.ntmps36 Tryd.results36 (by simp) ?_
        refine T_sr ?_
        refine S_boxA rfl rfl rfl fun _ => ?_
        refine S_boxA rfl rfl rfl fun _ => ?_
        refine S_allocA (zer rfl) rfl rfl fun _ => ?_
        refine S_allocA (zer rfl) rfl rfl fun _ => ?_
        refine S_nx ?_
        refine T_sr ?_
        refine S_allocA (zer rfl) rfl rfl fun _ => ?_
        refine S_allocA (zer rfl) rfl rfl fun _ => ?_
        refine S_nx ?_
        refine T_sr ?_
        refine S_val rfl rfl (Y_loadAI 0 (und rfl) rfl rfl rfl (siz rfl) (dl_length _ _ _)) ?_
        refine S_callV rfl rfl (bod rfl) (fun w hs => smx _) rfl rfl ?_
        refine S_mv rfl rfl rfl ?_
        refine S_val rfl rfl (Y_extract rfl rfl) ?_
        refine S_val rfl rfl (Y_extract rfl rfl) ?_
        refine S_as rfl rfl rfl ?_
        refine S_as rfl rfl rfl ?_
        refine S_nx ?_
        refine T_sr ?_
        refine S_val rfl rfl (Y_loadAI 1 (und rfl) rfl rfl rfl (siz rfl) (dl_length _ _ _)) ?_
        refine S_callV rfl rfl (bod rfl) (fun w hs => smy _) rfl rfl ?_
        refine S_mv rfl rfl rfl ?_
        refine S_val rfl rfl (Y_extract rfl rfl) ?_
        refine S_val rfl rfl (Y_extract rfl rfl) ?_
        refine S_as rfl rfl rfl ?_
        refine S_as rfl rfl rfl ?_
        refine S_nx ?_
        refine T_seq ?_
        refine T_block ?_
        refine T_sr ?_
        refine S_val rfl rfl (Y_loadAI 1 (und rfl) rfl rfl rfl (siz rfl) (dl_length _ _ _)) ?_
        refine S_val rfl rfl (Y_build (und rfl) (siz rfl) (zer rfl) rfl rfl) ?_
        refine S_val rfl rfl (Y_eqlA_f (eqg rfl) (und rfl) (und rfl) (siz rfl) rfl rfl (dl_length _ _ _) rfl (by assumption)) ?_
        refine S_as rfl rfl rfl ?_
        refine S_nx ?_
        refine T_cond_false rfl ?_
        refine T_sr ?_
        refine S_mv rfl rfl rfl ?_
        refine S_mv rfl rfl rfl ?_
        refine S_skip rfl rfl ?_
        refine S_val rfl rfl (Y_pick_f rfl rfl) ?_
        refine S_as rfl rfl rfl ?_
        refine S_nx ?_
        refine T_cond_false rfl ?_
        refine T_sr ?_
        refine S_mv rfl rfl rfl ?_
        refine S_as rfl rfl rfl ?_
        refine S_nx ?_
        refine T_cond_true rfl ?_
        refine T_sr ?_
        refine S_val rfl rfl (Y_loadAI 0 (und rfl) rfl rfl rfl (siz rfl) (dl_length _ _ _)) ?_
        refine S_mv rfl rfl rfl ?_
        refine S_callV rfl rfl (bod rfl) (fun w hs => short_any x y hx (by omega) hys _) rfl rfl ?_
        refine S_val rfl rfl (Y_extract rfl rfl) ?_
        refine S_val rfl rfl (Y_extract rfl rfl) ?_
        refine S_storeAI 2 (siz rfl) rfl rfl rfl rfl (dl_length _ _ _) rfl ?_
        refine S_storeAI 3 (siz rfl) rfl rfl rfl rfl (dl_length _ _ _) rfl ?_
        refine S_nx ?_
        refine T_ret ?_
        refine X_blk_ret ?_
        refine X_seq_ret ?_
        ((first | refine X_fin_ret ?_ | refine X_fin ?_); exact ⟨[_, _], [], .cons (.agg 2 rfl (und rfl) rfl rfl (siz rfl)) (.cons (.agg 3 rfl (und rfl) rfl rfl (siz rfl)) .nil), Emb.nil _, rfl, rfl⟩)
    · rw [if_neg hys, decide_eq_false hys] at smy
      have hy0 : 0 < y := by omega
      have hbl := bitLen_256 x hx
      have hlen : ∀ w, Fn Tryd.prog 32 #[W x] w fun v N => v = .int .i64 ((bitLen x : Nat) : Int) ∧ N = [] := len_any x hx
      have hx0 := bitLen_pow x
      generalize bitLen x = n at *
      obtain ⟨bx, hbx⟩ : ∃ b : Bool, b = decide (x < 18446744073709551616) := ⟨_, rfl⟩
      rw [← hbx] at smx
      clear hbx
      obtain ⟨sx, hsx⟩ : ∃ s : Nat, s = if x < 18446744073709551616 then x else 0 := ⟨_, rfl⟩
      rw [← hsx] at smx
      clear hsx
      have loop : ∀ (bx : Bool), (∀ w, Fn Tryd.prog 22 #[W x] w fun v N => v = .tuple #[.int .u64 ((sx : Nat) : Int), .bool bx] ∧ N = []) →
          Fn Tryd.prog 36 #[W x, W y] w fun v N => v = .tuple #[W (x / y), W (x % y)] ∧ N = [] := by
        intro bx smx
        cases bx
        all_goals
          refine Fn_of (args := [W x, W y]) Tryd.func36 rfl Tryd.ntmps36 Tryd.results36 (by simp) ?_
          refine T_sr ?_
          refine S_boxA rfl rfl rfl fun _ => ?_
          refine S_boxA rfl rfl rfl fun _ => ?_
          refine S_allocA (zer rfl) rfl rfl fun _ => ?_
          refine S_allocA (zer rfl) rfl rfl fun _ => ?_
          refine S_nx ?_
          refine T_sr ?_
          refine S_allocA (zer rfl) rfl rfl fun _ => ?_
          refine S_allocA (zer rfl) rfl rfl fun _ => ?_
          refine S_nx ?_
          refine T_sr ?_
          refine S_val rfl rfl (Y_loadAI 0 (und rfl) rfl rfl rfl (siz rfl) (dl_length _ _ _)) ?_
          refine S_callV rfl rfl (bod rfl) (fun w hs => smx _) rfl rfl ?_
          refine S_mv rfl rfl rfl ?_
          refine S_val rfl rfl (Y_extract rfl rfl) ?_
          refine S_val rfl rfl (Y_extract rfl rfl) ?_
          refine S_as rfl rfl rfl ?_
          refine S_as rfl rfl rfl ?_
          refine S_nx ?_
          refine T_sr ?_
          refine S_val rfl rfl (Y_loadAI 1 (und rfl) rfl rfl rfl (siz rfl) (dl_length _ _ _)) ?_
          refine S_callV rfl rfl (bod rfl) (fun w hs => smy _) rfl rfl ?_
          first | (refine S_mv rfl rfl rfl ?_; refine S_val rfl rfl (Y_extract rfl rfl) ?_; refine S_val rfl rfl (Y_extract rfl rfl) ?_; refine S_as rfl rfl rfl ?_; refine S_as rfl rfl rfl ?_; refine S_nx ?_; refine T_seq ?_; refine T_block ?_; refine T_sr ?_; refine S_val rfl rfl (Y_loadAI 1 (und rfl) rfl rfl rfl (siz rfl) (dl_length _ _ _)) ?_; refine S_val rfl rfl (Y_build (und rfl) (siz rfl) (zer rfl) rfl rfl) ?_; refine S_val rfl rfl (Y_eqlA_f (eqg rfl) (und rfl) (und rfl) (siz rfl) rfl rfl (dl_length _ _ _) rfl (by assumption)) ?_; refine S_as rfl rfl rfl ?_; refine S_nx ?_; refine T_cond_false rfl ?_; refine T_sr ?_; refine S_mv rfl rfl rfl ?_; refine S_mv rfl rfl rfl ?_; refine S_mv rfl rfl rfl ?_; refine S_val rfl rfl (Y_pick_t rfl rfl) ?_; refine S_as rfl rfl rfl ?_; refine S_nx ?_; refine T_cond_false rfl ?_; refine T_sr ?_; refine S_mv rfl rfl rfl ?_; refine S_as rfl rfl rfl ?_; refine S_nx ?_; refine T_cond_false rfl ?_; refine T_skip ?_; refine X_blk ?_; refine X_seq ?_; refine T_seq ?_; refine T_sr ?_; refine S_val rfl rfl (Y_loadAI 0 (und rfl) rfl rfl rfl (siz rfl) (dl_length _ _ _)) ?_) | (refine S_mv rfl rfl rfl ?_; refine S_val rfl rfl (Y_extract rfl rfl) ?_; refine S_val rfl rfl (Y_extract rfl rfl) ?_; refine S_as rfl rfl rfl ?_; refine S_as rfl rfl rfl ?_; refine S_nx ?_; refine T_seq ?_; refine T_block ?_; refine T_sr ?_; refine S_val rfl rfl (Y_loadAI 1 (und rfl) rfl rfl rfl (siz rfl) (dl_length _ _ _)) ?_; refine S_val rfl rfl (Y_build (und rfl) (siz rfl) (zer rfl) rfl rfl) ?_; refine S_val rfl rfl (Y_eqlA_f (eqg rfl) (und rfl) (und rfl) (siz rfl) rfl rfl (dl_length _ _ _) rfl (by assumption)) ?_; refine S_as rfl rfl rfl ?_; refine S_nx ?_; refine T_cond_false rfl ?_; refine T_sr ?_; refine S_mv rfl rfl rfl ?_; refine S_mv rfl rfl rfl ?_; refine S_skip rfl rfl ?_; refine S_val rfl rfl (Y_pick_f rfl rfl) ?_; refine S_as rfl rfl rfl ?_; refine S_nx ?_; refine T_cond_false rfl ?_; refine T_sr ?_; refine S_mv rfl rfl rfl ?_; refine S_as rfl rfl rfl ?_; refine S_nx ?_; refine T_cond_false rfl ?_; refine T_skip ?_; refine X_blk ?_; refine X_seq ?_; refine T_seq ?_; refine T_sr ?_; refine S_val rfl rfl (Y_loadAI 0 (und rfl) rfl rfl rfl (siz rfl) (dl_length _ _ _)) ?_)
          refine S_callV rfl rfl (bod rfl) (fun w hs => hlen _) rfl rfl ?_
          refine S_val rfl rfl (Y_sub rfl rfl (wi64 (by omega) (by omega))) ?_
          refine S_as rfl rfl rfl ?_
          refine S_nx ?_
          refine T_block ?_
          rename_i b0 b1 b2 b3 b4 b5
          refine T_loopE (α := Nat) (fun j => j ≤ 256)
            (fun j => [(2, .pointer (some ⟨b0, 0, none⟩)), (3, .pointer (some ⟨b1, 0, none⟩)), (4, .pointer (some ⟨b2, 0, none⟩)), (5, .pointer (some ⟨b3, 0, none⟩)), (6, .pointer (some ⟨b4, 0, none⟩)), (7, .pointer (some ⟨b5, 0, none⟩)), (12, .int .i64 ((j : Int) - 1))])
            (fun j => [blk b0 (.cells (ints .u64 (dl 18446744073709551616 4 (x))) 50 (0, 0)), blk b1 (.cells (ints .u64 (dl 18446744073709551616 4 (y))) 50 (0, 0)), blk b2 (.cells (ints .u64 (List.replicate 4 0)) 50 (0, 0)), blk b3 (.cells (ints .u64 (List.replicate 4 0)) 50 (0, 0)), blk b4 (.cells (ints .u64 (dl 18446744073709551616 4 (x / 2 ^ j / y * 2 ^ j))) 50 (0, 0)), blk b5 (.cells (ints .u64 (dl 18446744073709551616 4 (x / 2 ^ j % y))) 50 (0, 0))])
            (fun j => j) n hbl (by repeat (first | exact Env.sub_nil _ | (apply Env.sub_cons; rfl))) (by rw [hx0, Nat.zero_mod, Nat.zero_div, Nat.zero_mul]; exact Emb.refl _) ?_
          intro j hj
          by_cases hj0 : j = 0
          · subst hj0
            refine T_seq ?_
            refine T_sr ?_
            refine S_mv rfl rfl rfl ?_
            refine S_val rfl rfl (Y_geq_f rfl rfl (by decide)) ?_
            refine S_nx ?_
            refine T_cond_false rfl ?_
            refine T_exit ?_
            refine X_seq_exit ?_
            refine X_loop_exit ?_
            refine X_blk_hit rfl ?_
            refine X_seq ?_
            refine T_seq ?_
            refine T_drawL (.succ (.succ .zero)) [.fx (blk b2 (.cells (ints .u64 (List.replicate 4 0)) 50 (0, 0))), .fx (blk b3 (.cells (ints .u64 (List.replicate 4 0)) 50 (0, 0)))] [blk b0 (.cells (ints .u64 (dl 18446744073709551616 4 (x))) 50 (0, 0)), blk b1 (.cells (ints .u64 (dl 18446744073709551616 4 (y))) 50 (0, 0)), blk b4 (.cells (ints .u64 (dl 18446744073709551616 4 (x / 2 ^ 0 / y * 2 ^ 0))) 50 (0, 0)), blk b5 (.cells (ints .u64 (dl 18446744073709551616 4 (x / 2 ^ 0 % y))) 50 (0, 0))] rfl (by kernel_rfl) (Emb.idx [0, 1, 4, 5, 2, 3] rfl rfl) rfl (by kernel_rfl) ?_
            refine D0_valM rfl rfl rfl (Y_loadAI 2 (und rfl) rfl rfl rfl (siz rfl) (dl_length _ _ _)) ?_
            refine D0_valM rfl rfl rfl (Y_loadAI 3 (und rfl) rfl rfl rfl (siz rfl) (dl_length _ _ _)) ?_
            refine D0_nilL ?_
            refine DL_storeAI rfl (fun _ => rfl) rfl (siz rfl) (fun _ => rfl) (fun _ => rfl) rfl (dl_length _ _ _) ?_
            refine DL_storeAI rfl (fun _ => rfl) rfl (siz rfl) (fun _ => rfl) (fun _ => rfl) rfl (dl_length _ _ _) ?_
            refine DL_nil fun _ => ?_
            refine X_seq ?_
            refine T_ret ?_
            ((first | refine X_fin_ret ?_ | refine X_fin ?_); exact ⟨[_, _], [], .cons (.agg 4 rfl (und rfl) rfl rfl (siz rfl)) (.cons (.agg 5 rfl (und rfl) rfl rfl (siz rfl)) .nil), Emb.nil _, by rw [Nat.pow_zero, Nat.div_one, Nat.mul_one]; rfl, rfl⟩)
          · obtain ⟨i, rfl⟩ : ∃ i, j = i + 1 := ⟨j - 1, by omega⟩
            rw [show (((i + 1 : Nat) : Int) - 1) = (i : Int) by omega]
            obtain ⟨_, hb2, hb3⟩ := bit_step (N := x) (i := i) hy0
            have hl := Nat.mod_lt (x / 2 ^ (i + 1)) hy0
            have hbl2 : x / 2 ^ i % 2 < 2 := Nat.mod_lt _ (by omega)
            have hbit := fun w => bit_any x i hx (by omega) w
            simp only [Nat.testBit_eq_decide_div_mod_eq] at hbit
            have hstep := fun w => step_any (x / 2 ^ (i + 1) % y) y (x / 2 ^ i % 2) hy hl hbl2 w
            rw [← hb3] at hstep
            generalize x / 2 ^ (i + 1) % y = l at *
            generalize hA : x / 2 ^ (i + 1) / y = A at *
            have hQb : A * 2 ^ (i + 1) % 2 ^ (i + 1) = 0 := Nat.mul_mod_left _ _
            have hsh : (1 * 2 ^ (i % 64) % 18446744073709551616) < 18446744073709551616 := Nat.mod_lt _ (by omega)
            have hdq := digit_lt (A * 2 ^ (i + 1)) (i / 64)
            have hfin : (x / 2 ^ i / y) * 2 ^ i = A * 2 ^ (i + 1) + (2 * l + x / 2 ^ i % 2) / y * 2 ^ i := by
              rw [hb2, Nat.add_mul, Nat.pow_succ, Nat.mul_comm 2 A, Nat.mul_assoc, Nat.mul_comm 2]
            generalize hbb : decide (x / 2 ^ i % 2 = 1) = bb at *
            generalize hr2 : x / 2 ^ i % y = r2 at *
            by_cases hge : y ≤ 2 * l + x / 2 ^ i % 2
            · rw [decide_eq_true hge] at hstep
              have hq1 : (2 * l + x / 2 ^ i % 2) / y = 1 := by
                have e : 2 * l + x / 2 ^ i % 2 = (2 * l + x / 2 ^ i % 2 - y) + 1 * y := by omega
                rw [e, Nat.add_mul_div_right _ _ hy0, Nat.div_eq_of_lt (by omega)]
              rw [hq1, Nat.one_mul] at hfin
              clear hb2 hb3 hbb
              refine T_seq ?_
              refine T_sr ?_
              refine S_mv rfl rfl rfl ?_
              refine S_val rfl rfl (Y_geq_t rfl rfl (by omega)) ?_
              refine S_nx ?_
              refine T_cond_true rfl ?_
              refine T_skip ?_
              refine X_seq ?_
              refine T_seq ?_
              refine T_block ?_
              refine T_seq ?_
              refine T_drawL (.succ (.succ (.succ (.succ (.succ (.succ (.succ (.succ (.succ (.succ .zero)))))))))) [.no, .nw 10 (.cells (ints .u64 (List.replicate 4 0)) 50), .no] [blk b0 (.cells (ints .u64 (dl 18446744073709551616 4 (x))) 50 (0, 0)), blk b1 (.cells (ints .u64 (dl 18446744073709551616 4 (y))) 50 (0, 0)), blk b2 (.cells (ints .u64 (List.replicate 4 0)) 50 (0, 0)), blk b3 (.cells (ints .u64 (List.replicate 4 0)) 50 (0, 0)), blk b4 (.cells (ints .u64 (dl 18446744073709551616 4 (A * 2 ^ (i + 1)))) 50 (0, 0)), blk b5 (.cells (ints .u64 (dl 18446744073709551616 4 (l))) 50 (0, 0))] rfl (by kernel_rfl) (Emb.idx [0, 1, 2, 3, 4, 5] rfl rfl) rfl (by kernel_rfl) ?_
              refine D0_valM rfl rfl rfl (Y_loadAI 5 (und rfl) rfl rfl rfl (siz rfl) (dl_length _ _ _)) ?_
              refine D0_valM rfl rfl rfl (Y_loadAI 1 (und rfl) rfl rfl rfl (siz rfl) (dl_length _ _ _)) ?_
              refine D0_valM rfl rfl rfl (Y_loadAI 0 (und rfl) rfl rfl rfl (siz rfl) (dl_length _ _ _)) ?_
              refine D0_val rfl rfl rfl (Y_move rfl) ?_
              refine D0_valM rfl rfl rfl (Y_conv (und rfl) (und rfl) rfl (wu64 (by omega) (by omega))) ?_
              refine D0_callV rfl rfl (bod rfl) (fun w hs => hbit _) rfl rfl ?_
              skip
              refine D0_callV rfl rfl (bod rfl) (fun w hs => hstep _) rfl rfl ?_
              refine D0_val rfl rfl rfl (Y_move rfl) ?_
              refine D0_val rfl rfl rfl (Y_extract rfl rfl) ?_
              refine D0_val rfl rfl rfl (Y_extract rfl rfl) ?_
              refine D0_nilL ?_
              refine DL_allocA (zer rfl) rfl rfl rfl rfl rfl rfl ?_
              refine DL_storeAI rfl (fun _ => rfl) rfl (siz rfl) (fun _ => rfl) (fun _ => rfl) rfl (dl_length _ _ _) ?_
              refine DL_val rfl rfl rfl rfl rfl rfl (fun _ => (Y_assign rfl)) ?_
              refine DL_nil fun _ => ?_
              refine X_seq ?_
              refine T_sr ?_
              refine S_val rfl rfl (Y_loadAI 6 (und rfl) rfl rfl rfl (siz rfl) (dl_length _ _ _)) ?_
              refine S_storeAI 5 (siz rfl) rfl rfl rfl (dl_length _ _ _) (dl_length _ _ _) rfl ?_
              refine S_nx ?_
              refine T_sr ?_
              refine S_mv rfl rfl rfl ?_
              refine S_nx ?_
              refine T_cond_true rfl ?_
              refine T_draw (by kernel_rfl) (by kernel_rfl) rfl ?_
              refine D0_val rfl rfl rfl (Y_move rfl) ?_
              refine D0_val rfl rfl rfl (Y_quoN rfl rfl (nat_cast _) (nat_lit' _) (Nat.succ_ne_zero _) (by first | with_reducible exact xi64 (by omega) | with_reducible exact x64 (by omega) | with_reducible exact x8 (by omega) | with_reducible exact x32 (by omega))) ?_
              refine D0_val rfl rfl rfl (Y_ixa (und rfl) (siz rfl) rfl rfl (nat_cast _) (by omega)) ?_
              refine D0_valM rfl rfl rfl (Y_loadI 4 (und rfl) rfl rfl rfl (dl_get (by omega))) ?_
              refine D0_val rfl rfl rfl (Y_move rfl) ?_
              refine D0_val rfl rfl rfl (Y_remN rfl rfl (nat_cast _) (nat_lit' _) (Nat.succ_ne_zero _)) ?_
              refine D0_val rfl rfl rfl (Y_shlN rfl rfl (nat_lit' _) (nat_cast _) rfl pw64) ?_
              refine D0_val rfl rfl rfl (Y_or rfl rfl (nat_cast _) (nat_cast _) rfl (by simp only [IntKind.bits]; assumption) (by simp only [IntKind.bits]; assumption)) ?_
              refine D0_val rfl rfl rfl (Y_ixa (und rfl) (siz rfl) rfl rfl (nat_cast _) (by omega)) ?_
              refine D0_storeI 4 rfl (siz rfl) rfl rfl rfl (by simp; omega) rfl rfl ?_
              refine D0_nil ?_
              refine X_blk ?_
              refine X_seq ?_
              refine T_region ?_
              refine S_mv rfl rfl rfl ?_
              refine S_val rfl rfl (Y_sub rfl rfl (wi64 (by omega) (by omega))) ?_
              refine S_as rfl rfl rfl ?_
              refine S_nil ?_
              refine X_loop ?_
              refine ⟨i, by omega, by omega, (by repeat (first | exact Env.sub_nil _ | (apply Env.sub_cons; rfl))), ?_⟩
              rw [hfin, hr2, dl_orbit (by omega) hQb]
              exact Emb.idx [0, 1, 2, 3, 4, 5] rfl rfl
            · rw [decide_eq_false hge] at hstep
              have hq1 : (2 * l + x / 2 ^ i % 2) / y = 0 := Nat.div_eq_of_lt (by omega)
              rw [hq1, Nat.zero_mul, Nat.add_zero] at hfin
              clear hb2 hb3 hbb
              refine T_seq ?_
              refine T_sr ?_
              refine S_mv rfl rfl rfl ?_
              refine S_val rfl rfl (Y_geq_t rfl rfl (by omega)) ?_
              refine S_nx ?_
              refine T_cond_true rfl ?_
              refine T_skip ?_
              refine X_seq ?_
              refine T_seq ?_
              refine T_block ?_
              refine T_seq ?_
              refine T_drawL (.succ (.succ (.succ (.succ (.succ (.succ (.succ (.succ (.succ (.succ .zero)))))))))) [.no, .nw 10 (.cells (ints .u64 (List.replicate 4 0)) 50), .no] [blk b0 (.cells (ints .u64 (dl 18446744073709551616 4 (x))) 50 (0, 0)), blk b1 (.cells (ints .u64 (dl 18446744073709551616 4 (y))) 50 (0, 0)), blk b2 (.cells (ints .u64 (List.replicate 4 0)) 50 (0, 0)), blk b3 (.cells (ints .u64 (List.replicate 4 0)) 50 (0, 0)), blk b4 (.cells (ints .u64 (dl 18446744073709551616 4 (A * 2 ^ (i + 1)))) 50 (0, 0)), blk b5 (.cells (ints .u64 (dl 18446744073709551616 4 (l))) 50 (0, 0))] rfl (by kernel_rfl) (Emb.idx [0, 1, 2, 3, 4, 5] rfl rfl) rfl (by kernel_rfl) ?_
              refine D0_valM rfl rfl rfl (Y_loadAI 5 (und rfl) rfl rfl rfl (siz rfl) (dl_length _ _ _)) ?_
              refine D0_valM rfl rfl rfl (Y_loadAI 1 (und rfl) rfl rfl rfl (siz rfl) (dl_length _ _ _)) ?_
              refine D0_valM rfl rfl rfl (Y_loadAI 0 (und rfl) rfl rfl rfl (siz rfl) (dl_length _ _ _)) ?_
              refine D0_val rfl rfl rfl (Y_move rfl) ?_
              refine D0_valM rfl rfl rfl (Y_conv (und rfl) (und rfl) rfl (wu64 (by omega) (by omega))) ?_
              refine D0_callV rfl rfl (bod rfl) (fun w hs => hbit _) rfl rfl ?_
              skip
              refine D0_callV rfl rfl (bod rfl) (fun w hs => hstep _) rfl rfl ?_
              refine D0_val rfl rfl rfl (Y_move rfl) ?_
              refine D0_val rfl rfl rfl (Y_extract rfl rfl) ?_
              refine D0_val rfl rfl rfl (Y_extract rfl rfl) ?_
              refine D0_nilL ?_
              refine DL_allocA (zer rfl) rfl rfl rfl rfl rfl rfl ?_
              refine DL_storeAI rfl (fun _ => rfl) rfl (siz rfl) (fun _ => rfl) (fun _ => rfl) rfl (dl_length _ _ _) ?_
              refine DL_val rfl rfl rfl rfl rfl rfl (fun _ => (Y_assign rfl)) ?_
              refine DL_nil fun _ => ?_
              refine X_seq ?_
              refine T_sr ?_
              refine S_val rfl rfl (Y_loadAI 6 (und rfl) rfl rfl rfl (siz rfl) (dl_length _ _ _)) ?_
              refine S_storeAI 5 (siz rfl) rfl rfl rfl (dl_length _ _ _) (dl_length _ _ _) rfl ?_
              refine S_nx ?_
              refine T_sr ?_
              refine S_mv rfl rfl rfl ?_
              refine S_nx ?_
              refine T_cond_false rfl ?_
              refine T_skip ?_
              refine X_blk ?_
              refine X_seq ?_
              refine T_region ?_
              refine S_mv rfl rfl rfl ?_
              refine S_val rfl rfl (Y_sub rfl rfl (wi64 (by omega) (by omega))) ?_
              refine S_as rfl rfl rfl ?_
              refine S_nil ?_
              skip
              refine X_loop ?_
              refine ⟨i, by omega, by omega, (by repeat (first | exact Env.sub_nil _ | (apply Env.sub_cons; rfl))), ?_⟩
              rw [hfin, hr2]
              exact Emb.idx [0, 1, 2, 3, 4, 5] rfl rfl
      exact loop bx smx
end Go.Proofs.YtjolmphkmfbpbaaDoor
/- Package modexp: the parts of an input. -/
namespace Go.Proofs.YtjolmphkmfbpbaaDoor
open Go.RowKit
set_option maxRecDepth 20000
set_option maxHeartbeats 4000000
/-- The first p bytes of n, with noughts behind, as a number. -/
def qN (n x p : Nat) : Nat := x * 256 ^ p / 256 ^ n
theorem qN_le {n x p : Nat} (h : p ≤ n) : qN n x p = x / 256 ^ (n - p) := by
  unfold qN
  conv => lhs; rw [show n = (n - p) + p by omega]
  rw [Nat.pow_add, Nat.mul_div_mul_right _ _ (Nat.pow_pos (by omega))]
theorem qN_ge {n x p : Nat} (h : n ≤ p) : qN n x p = x * 256 ^ (p - n) := by
  unfold qN
  conv => lhs; rw [show p = (p - n) + n by omega]
  rw [Nat.pow_add, ← Nat.mul_assoc, Nat.mul_div_cancel _ (Nat.pow_pos (by omega))]
theorem qN_succ (n x p : Nat) : qN n x (p + 1) / 256 = qN n x p := by
  unfold qN
  rw [Nat.div_div_eq_div_mul, Nat.pow_succ, ← Nat.mul_assoc, Nat.mul_div_mul_right _ _ (by omega)]
theorem qN_byte {n x p : Nat} (h : p < n) : qN n x (p + 1) % 256 = x / 256 ^ (n - 1 - p) % 256 := by
  rw [qN_le (by omega), show n - (p + 1) = n - 1 - p by omega]
theorem qN_none {n x p : Nat} (h : n ≤ p) : qN n x (p + 1) % 256 = 0 := by
  rw [qN_ge (by omega), show p + 1 - n = (p - n) + 1 by omega, Nat.pow_succ, ← Nat.mul_assoc, Nat.mul_mod_left]
theorem qN_far {n x p k : Nat} (h : n + k ≤ p) : qN n x p % 256 ^ k = 0 := by
  rw [qN_ge (by omega), show p - n = (p - n - k) + k by omega, Nat.pow_add, ← Nat.mul_assoc, Nat.mul_mod_left]
theorem bel_next {n x p k c : Nat} (h : qN n x (p + 1) % 256 = c) : bel k (qN n x p) ++ [(c : Int)] = bel (k + 1) (qN n x (p + 1)) := by
  rw [bel_snoc _ _ _ (by rw [← h]; exact Nat.mod_lt _ (by omega)), ← qN_succ, ← h]
  congr 1
  omega
theorem part_row (n x at_ k : Nat) (_hx : x < 256 ^ n) (h : at_ < n) : (bel (n - at_) x).take (min (n - at_) k) ++ (List.replicate k (0 : Int)).drop (min (n - at_) k) = bel k (qN n x (at_ + k)) := by
  by_cases h2 : at_ + k ≤ n
  · rw [show min (n - at_) k = k by omega, bel_take _ _ _ (by omega), List.drop_of_length_le (by simp), List.append_nil, qN_le h2, show n - at_ - k = n - (at_ + k) by omega]
  · rw [show min (n - at_) k = n - at_ by omega, List.take_of_length_le (by rw [bel_length]; omega), List.drop_replicate, ← bel_zero, bel_append _ _ _ _ (Nat.pow_pos (by omega)), qN_ge (by omega), Nat.add_zero, show at_ + k - n = k - (n - at_) by omega]
    congr 1
    omega
theorem mpart_any (n x at_ k : Nat) (hx : x < 256 ^ n) (hn : n ≤ 1000000) (_ha : at_ < 18446744073709551616) (hk : k ≤ 1000) (v : Value) (w : World) (hr : Rd w v .u8 (bel n x)) :
    Fn Tryd.prog 23 #[v, .int .u64 at_, .int .u64 k] w fun u N => N = [row .u8 (bel k (qN n x (at_ + k))) u] := by
  by_cases h : at_ < n
  · have hp := part_row n x at_ k hx h
    have hd : Rd w (vDrop at_ v) .u8 (bel (n - at_) x) := by
      have := hr.dropV (j := at_) (by rw [bel_length]; omega)
      rwa [bel_drop _ _ _ (by omega)] at this
    refine Fn_of (args := [v, .int .u64 at_, .int .u64 k]) Tryd.func23 rfl Tryd.ntmps23 Tryd.results23 (by simp) ?_
    refine T_sr ?_
    refine S_as rfl rfl rfl ?_
    refine S_nx ?_
    refine T_sr ?_
    refine S_mv rfl rfl rfl ?_
    refine S_makeR (und rfl) (siz rfl) (byt rfl) (zer rfl) rfl rfl (nat_cast _) (by omega) rfl rfl rfl fun _ => ?_
    refine S_as rfl rfl rfl ?_
    refine S_nx ?_
    refine T_seq ?_
    refine T_sr ?_
    refine S_mv rfl rfl rfl ?_
    refine S_mv rfl rfl rfl ?_
    refine S_val rfl rfl (Y_lenV rfl (und rfl) rfl (fun _ hs => Rd.st (by assumption) hs) (bel_length _ _)) ?_
    refine S_val rfl rfl (Y_conv (und rfl) (und rfl) rfl (wu64 (by omega) (by omega))) ?_
    refine S_val rfl rfl (Y_lss_t rfl rfl (by omega)) ?_
    refine S_nx ?_
    refine T_cond_true rfl ?_
    refine T_region ?_
    refine S_mv rfl rfl rfl ?_
    refine S_mv rfl rfl rfl ?_
    refine S_mv rfl rfl rfl ?_
    refine S_val rfl rfl (Y_sliceLoV (und rfl) (siz rfl) rfl rfl (fun _ hs => Rd.st (by assumption) hs) (nat_cast _) (by simp; omega)) ?_
    refine S_copyR 0 (m := bel (n - at_) x) (n := min (n - at_) k) rfl (und rfl) (siz rfl) rfl rfl rfl (fun w hs => (by first | exact hs.rowRd 0 rfl | exact hs.rowRd 1 rfl | exact hs.rowRd 2 rfl | exact hs.rowRd 3 rfl | exact hs.rowRd 4 rfl | exact hs.rowRd 5 rfl | exact hs.rowRd 6 rfl | exact hs.rowRd 7 rfl | exact hs.rowRd 8 rfl | exact hs.rowRd 9 rfl | exact hs.rowRd 10 rfl | exact hs.rowRd 11 rfl | exact hs.rowRd 12 rfl | exact hs.rowRd 13 rfl | exact Rd.st (by assumption) hs)) (by rw [bel_length, List.length_replicate]) rfl rfl fun _ => ?_
    rw [hp]
    refine S_nx ?_
    refine T_sr ?_
    refine S_mv rfl rfl rfl ?_
    refine S_as rfl rfl rfl ?_
    refine S_nx ?_
    refine T_ret ?_
    ((first | refine X_fin_ret ?_ | refine X_fin ?_); exact ⟨[_], [_], .cons (.tmp rfl) .nil, Emb.one 0 rfl, rfl⟩)
  · have e : List.replicate k (0 : Int) = bel k (qN n x (at_ + k)) := by
      rw [← bel_mod, qN_far (by omega), bel_zero]
    refine Fn_of (args := [v, .int .u64 at_, .int .u64 k]) Tryd.func23 rfl Tryd.ntmps23 Tryd.results23 (by simp) ?_
    refine T_sr ?_
    refine S_as rfl rfl rfl ?_
    refine S_nx ?_
    refine T_sr ?_
    refine S_mv rfl rfl rfl ?_
    refine S_makeR (und rfl) (siz rfl) (byt rfl) (zer rfl) rfl rfl (nat_cast _) (by omega) rfl rfl rfl fun _ => ?_
    refine S_as rfl rfl rfl ?_
    refine S_nx ?_
    refine T_seq ?_
    refine T_sr ?_
    refine S_mv rfl rfl rfl ?_
    refine S_mv rfl rfl rfl ?_
    refine S_val rfl rfl (Y_lenV rfl (und rfl) rfl (fun _ hs => Rd.st (by assumption) hs) (bel_length _ _)) ?_
    refine S_val rfl rfl (Y_conv (und rfl) (und rfl) rfl (wu64 (by omega) (by omega))) ?_
    refine S_val rfl rfl (Y_lss_f rfl rfl (by omega)) ?_
    refine S_nx ?_
    refine T_cond_false rfl ?_
    refine T_skip ?_
    refine X_seq ?_
    refine T_sr ?_
    refine S_mv rfl rfl rfl ?_
    refine S_as rfl rfl rfl ?_
    refine S_nx ?_
    refine T_ret ?_
    ((first | refine X_fin_ret ?_ | refine X_fin ?_); exact ⟨[_], [_], .cons (.tmp rfl) .nil, Emb.one 0 rfl, by rw [e]; rfl⟩)
theorem rpart_any (n x at_ k : Nat) (_hx : x < 256 ^ n) (hn : n ≤ 1000000) (ha : at_ < 1000000000000000000) (hk : k ≤ 1000) (v : Value) (w : World) (hr : Rd w v .u8 (bel n x)) :
    Fn Tryd.prog 17 #[v, .int .i64 at_, .int .i64 k] w fun u N => N = [row .u8 (bel k (qN n x (at_ + k))) u] := by
  refine Fn_of (args := [v, .int .i64 at_, .int .i64 k]) Tryd.func17 rfl Tryd.ntmps17 Tryd.results17 (by simp) ?_
  refine T_sr ?_
  refine S_as rfl rfl rfl ?_
  refine S_nx ?_
  refine T_sr ?_
  refine S_sliceR (und rfl) (siz rfl) (zer rfl) rfl rfl rfl rfl fun _ => ?_
  refine S_as rfl rfl rfl ?_
  refine S_nx ?_
  refine T_seq ?_
  refine T_sr ?_
  refine S_as rfl rfl rfl ?_
  refine S_nx ?_
  refine T_block ?_
  rename_i v0
  refine T_loopE (α := Nat × Value) (fun a => a.1 ≤ k)
    (fun a => [(0, v), (1, .int .i64 at_), (2, .int .i64 k), (7, a.2), (8, .int .i64 a.1)])
    (fun a => [row .u8 (bel a.1 (qN n x (at_ + a.1))) a.2])
    (fun a => k - a.1) (0, v0) (Nat.zero_le _) (by repeat (first | exact Env.sub_nil _ | (apply Env.sub_cons; rfl))) (Emb.refl _) ?_
  rintro ⟨i, u⟩ hi
  dsimp only at hi ⊢
  by_cases h : i < k
  · by_cases h2 : at_ + i < n
    · have he := bel_next (k := i) (qN_byte (x := x) h2)
      rw [show at_ + i + 1 = at_ + (i + 1) by omega] at he
      have hc := dig256_lt x (n - 1 - (at_ + i))
      refine T_seq ?_
      refine T_sr ?_
      refine S_mv rfl rfl rfl ?_
      refine S_mv rfl rfl rfl ?_
      refine S_val rfl rfl (Y_lss_t rfl rfl (by omega)) ?_
      refine S_nx ?_
      refine T_cond_true rfl ?_
      refine T_skip ?_
      refine X_seq ?_
      refine T_seq ?_
      refine T_block ?_
      refine T_sr ?_
      refine S_mv rfl rfl rfl ?_
      refine S_mv rfl rfl rfl ?_
      refine S_val rfl rfl (Y_addN rfl rfl (nat_cast _) (nat_cast _) (by omega)) ?_
      refine S_mv rfl rfl rfl ?_
      refine S_val rfl rfl (Y_lenV rfl (und rfl) rfl (fun _ hs => Rd.st (by assumption) hs) (bel_length _ _)) ?_
      refine S_val rfl rfl (Y_lss_t rfl rfl (by omega)) ?_
      refine S_nx ?_
      refine T_cond_true rfl ?_
      refine T_region ?_
      refine S_mv rfl rfl rfl ?_
      refine S_mv rfl rfl rfl ?_
      refine S_mv rfl rfl rfl ?_
      refine S_mv rfl rfl rfl ?_
      refine S_val rfl rfl (Y_addN rfl rfl (nat_cast _) (nat_cast _) (by omega)) ?_
      refine S_val rfl rfl (Y_ixV (und rfl) (siz rfl) rfl rfl (fun _ hs => Rd.st (by assumption) hs) (nat_cast _) (by simp; omega)) ?_
      refine S_val rfl rfl (Y_loadV (und rfl) rfl rfl (fun _ hs => Rd.st (by assumption) hs) (bel_get (by assumption))) ?_
      refine S_sliceR (und rfl) (siz rfl) (zer rfl) rfl rfl rfl rfl fun _ => ?_
      refine S_append 0 rfl (und rfl) (und rfl) (siz rfl) (byt rfl) (zer rfl) rfl rfl rfl (fun _ hs => hs.rowRd 1 rfl) (by simp; omega) rfl rfl rfl fun _ => ?_
      refine S_as rfl rfl rfl ?_
      refine S_nil ?_
      refine X_blk ?_
      refine X_seq ?_
      refine T_region ?_
      refine S_mv rfl rfl rfl ?_
      refine S_val rfl rfl (Y_addN rfl rfl (nat_cast _) (nat_lit' _) (by omega)) ?_
      refine S_as rfl rfl rfl ?_
      refine S_nil ?_
      refine X_loop ?_
      exact ⟨(i + 1, _), by dsimp only; omega, by dsimp only; omega, (by repeat (first | exact Env.sub_nil _ | (apply Env.sub_cons; rfl))), by dsimp only; rw [← he]; exact Emb.one 0 rfl⟩
    · have he := bel_next (k := i) (qN_none (n := n) (x := x) (p := at_ + i) (by omega))
      rw [show at_ + i + 1 = at_ + (i + 1) by omega] at he
      refine T_seq ?_
      refine T_sr ?_
      refine S_mv rfl rfl rfl ?_
      refine S_mv rfl rfl rfl ?_
      refine S_val rfl rfl (Y_lss_t rfl rfl (by omega)) ?_
      refine S_nx ?_
      refine T_cond_true rfl ?_
      refine T_skip ?_
      refine X_seq ?_
      refine T_seq ?_
      refine T_block ?_
      refine T_sr ?_
      refine S_mv rfl rfl rfl ?_
      refine S_mv rfl rfl rfl ?_
      refine S_val rfl rfl (Y_addN rfl rfl (nat_cast _) (nat_cast _) (by omega)) ?_
      refine S_mv rfl rfl rfl ?_
      refine S_val rfl rfl (Y_lenV rfl (und rfl) rfl (fun _ hs => Rd.st (by assumption) hs) (bel_length _ _)) ?_
      refine S_val rfl rfl (Y_lss_f rfl rfl (by omega)) ?_
      refine S_nx ?_
      refine T_cond_false rfl ?_
      refine T_region ?_
      refine S_mv rfl rfl rfl ?_
      refine S_sliceR (und rfl) (siz rfl) (zer rfl) rfl rfl rfl rfl fun _ => ?_
      refine S_append 0 rfl (und rfl) (und rfl) (siz rfl) (byt rfl) (zer rfl) rfl rfl rfl (fun _ hs => hs.rowRd 1 rfl) (by simp; omega) rfl rfl rfl fun _ => ?_
      refine S_as rfl rfl rfl ?_
      refine S_nil ?_
      refine X_blk ?_
      refine X_seq ?_
      refine T_region ?_
      refine S_mv rfl rfl rfl ?_
      refine S_val rfl rfl (Y_addN rfl rfl (nat_cast _) (nat_lit' _) (by omega)) ?_
      refine S_as rfl rfl rfl ?_
      refine S_nil ?_
      refine X_loop ?_
      exact ⟨(i + 1, _), by dsimp only; omega, by dsimp only; omega, (by repeat (first | exact Env.sub_nil _ | (apply Env.sub_cons; rfl))), by dsimp only; rw [← he]; exact Emb.one 0 rfl⟩
  · obtain rfl : i = k := by omega
    refine T_seq ?_
    refine T_sr ?_
    refine S_mv rfl rfl rfl ?_
    refine S_mv rfl rfl rfl ?_
    refine S_val rfl rfl (Y_lss_f rfl rfl (by omega)) ?_
    refine S_nx ?_
    refine T_cond_false rfl ?_
    refine T_exit ?_
    refine X_seq_exit ?_
    refine X_loop_exit ?_
    refine X_blk_hit rfl ?_
    refine X_seq ?_
    refine T_sr ?_
    refine S_mv rfl rfl rfl ?_
    refine S_as rfl rfl rfl ?_
    refine S_nx ?_
    refine T_ret ?_
    ((first | refine X_fin_ret ?_ | refine X_fin ?_); exact ⟨[_], [_], .cons (.tmp rfl) .nil, Emb.one 0 rfl, rfl⟩)
/-- One of the three lengths. -/
def lenN (n x k : Nat) : Nat := qN n x (32 * k + 32) % 2 ^ 256
theorem lenN_lt (n x k : Nat) : lenN n x k < 2 ^ 256 := Nat.mod_lt _ (by omega)
theorem lenN_bel (n x k : Nat) : bel 32 (qN n x (32 * k + 32)) = bel 32 (lenN n x k) := by
  unfold lenN
  rw [show (2 : Nat) ^ 256 = 256 ^ 32 by decide, bel_mod]
theorem rlength_any (n x k : Nat) (hx : x < 256 ^ n) (hn : n ≤ 1000000) (hk : k ≤ 2) (v : Value) (w : World) (hr : Rd w v .u8 (bel n x)) :
    Fn Tryd.prog 9 #[v, .int .i64 k] w fun u N => u = .tuple #[.int .u64 ((if lenN n x k < 18446744073709551616 then lenN n x k else 0 : Nat) : Int), .bool (decide (lenN n x k < 18446744073709551616))] ∧ N = [] := by
  have pt := fun w h => rpart_any n x (32 * k) 32 hx hn (by omega) (by omega) v w h
  simp only [lenN_bel] at pt
  have hl := lenN_lt n x k
  generalize lenN n x k = l at *
  by_cases hs : l < 18446744073709551616
  · rw [if_pos hs, decide_eq_true hs]
    refine Fn_of (args := [v, .int .i64 k]) Tryd.func9 rfl Tryd.ntmps9 Tryd.results9 (by simp) ?_
    refine T_sr ?_
    refine S_as rfl rfl rfl ?_
    refine S_as rfl rfl rfl ?_
    refine S_nx ?_
    refine T_sr ?_
    refine S_mv rfl rfl rfl ?_
    refine S_mv rfl rfl rfl ?_
    refine S_val rfl rfl (Y_mulN rfl rfl (nat_lit' _) (nat_cast _) (by omega)) ?_
    refine S_callR _ rfl rfl (bod rfl) (fun w hs => pt _ (by first | exact hs.rowRd 0 rfl | exact hs.rowRd 1 rfl | exact hs.rowRd 2 rfl | exact hs.rowRd 3 rfl | exact hs.rowRd 4 rfl | exact hs.rowRd 5 rfl | exact hs.rowRd 6 rfl | exact hs.rowRd 7 rfl | exact hs.rowRd 8 rfl | exact hs.rowRd 9 rfl | exact hs.rowRd 10 rfl | exact hs.rowRd 11 rfl | exact hs.rowRd 12 rfl | exact hs.rowRd 13 rfl | exact Rd.st (by assumption) hs)) rfl rfl fun _ => ?_
    refine S_as rfl rfl rfl ?_
    refine S_nx ?_
    refine T_sr ?_
    refine S_as rfl rfl rfl ?_
    refine S_nx ?_
    refine T_seq ?_
    refine T_sr ?_
    refine S_as rfl rfl rfl ?_
    refine S_nx ?_
    refine T_block ?_
    rename_i vb
    refine T_loop (α := Nat) (fun i => i ≤ 32)
      (fun i => [(6, vb), (7, .int .u64 ((l / 256 ^ (32 - i) : Nat) : Int)), (8, .int .i64 i)])
      (fun i => [row .u8 (bel 32 l) vb])
      (fun i => 32 - i) 0 (by omega) (by rw [Nat.div_eq_of_lt (show l < 256 ^ (32 - 0) from hl)]; exact (by repeat (first | exact Env.sub_nil _ | (apply Env.sub_cons; rfl)))) [] rfl ?_
    intro i hi
    refine T_sh 0 rfl fun hsh => ?_
    rw [bel_length] at hsh
    by_cases h : i < 32
    · have hd := dig256_lt l (32 - 1 - i)
      have hq : l / 256 ^ (32 - (i + 1)) = l / 256 ^ (32 - i) * 256 + l / 256 ^ (32 - 1 - i) % 256 := by
        rw [show 32 - i = (32 - (i + 1)) + 1 by omega, Nat.pow_succ, ← Nat.div_div_eq_div_mul, show 32 - 1 - i = 32 - (i + 1) by omega]
        omega
      have hle : l / 256 ^ (32 - (i + 1)) ≤ l := Nat.div_le_self _ _
      have hlt : l / 256 ^ (32 - i) * 256 + l / 256 ^ (32 - 1 - i) % 256 < 18446744073709551616 := by omega
      have hm : l / 256 ^ (32 - i) * 256 < 18446744073709551616 := by omega
      clear hle
      by_cases h2 : i < 24
      · have h0 : l / 256 ^ (32 - 1 - i) % 256 = 0 := by
          rw [Nat.div_eq_of_lt (Nat.lt_of_lt_of_le hs (show 256 ^ 8 ≤ 256 ^ (32 - 1 - i) from Nat.pow_le_pow_right (by omega) (by omega)))]
        have h0' : ¬ ((l / 256 ^ (32 - 1 - i) % 256 : Nat) : Int) ≠ 0 := by omega
        refine T_seq ?_
        refine T_sr ?_
        refine S_mv rfl rfl rfl ?_
        refine S_val rfl rfl (Y_lss_t rfl rfl (by omega)) ?_
        refine S_nx ?_
        refine T_cond_true rfl ?_
        refine T_skip ?_
        refine X_seq ?_
        refine T_seq ?_
        refine T_block ?_
        refine T_seq ?_
        refine T_sr ?_
        refine S_mv rfl rfl rfl ?_
        refine S_val rfl rfl (Y_lss_t rfl rfl (by omega)) ?_
        refine S_mv rfl rfl rfl ?_
        refine S_mv rfl rfl rfl ?_
        refine S_mv rfl rfl rfl ?_
        refine S_val rfl rfl (Y_ixV (und rfl) (siz rfl) rfl rfl (fun _ hs => hs.rowRd 0 rfl) (nat_cast _) (by assumption)) ?_
        refine S_val rfl rfl (Y_loadV (und rfl) rfl rfl (fun _ hs => hs.rowRd 0 rfl) (bel_get (by assumption))) ?_
        refine S_val rfl rfl (Y_neq_f rfl rfl (by assumption)) ?_
        refine S_val rfl rfl (Y_pick_t rfl rfl) ?_
        refine S_nx ?_
        refine T_cond_false rfl ?_
        refine T_skip ?_
        refine X_seq ?_
        refine T_region ?_
        refine S_mv rfl rfl rfl ?_
        refine S_val rfl rfl (Y_mulU rfl rfl (nat_cast _) (nat_lit' _) rfl (by simp only [IntKind.bits]; assumption)) ?_
        refine S_mv rfl rfl rfl ?_
        refine S_mv rfl rfl rfl ?_
        refine S_val rfl rfl (Y_ixV (und rfl) (siz rfl) rfl rfl (fun _ hs => hs.rowRd 0 rfl) (nat_cast _) (by assumption)) ?_
        refine S_val rfl rfl (Y_loadV (und rfl) rfl rfl (fun _ hs => hs.rowRd 0 rfl) (bel_get (by assumption))) ?_
        refine S_val rfl rfl (Y_conv (und rfl) (und rfl) rfl (wu64 (by omega) (by omega))) ?_
        refine S_val rfl rfl (Y_addU rfl rfl (nat_cast _) (nat_cast _) rfl (by simp only [IntKind.bits]; assumption)) ?_
        refine S_as rfl rfl rfl ?_
        refine S_nil ?_
        refine X_blk ?_
        refine X_seq ?_
        refine T_region ?_
        refine S_mv rfl rfl rfl ?_
        refine S_val rfl rfl (Y_addN rfl rfl (nat_cast _) (nat_lit' _) (by omega)) ?_
        refine S_as rfl rfl rfl ?_
        refine S_nil ?_
        refine X_loop ?_
        exact ⟨i + 1, by omega, by omega, by rw [hq]; exact (by repeat (first | exact Env.sub_nil _ | (apply Env.sub_cons; rfl))), [], rfl⟩
      · refine T_seq ?_
        refine T_sr ?_
        refine S_mv rfl rfl rfl ?_
        refine S_val rfl rfl (Y_lss_t rfl rfl (by omega)) ?_
        refine S_nx ?_
        refine T_cond_true rfl ?_
        refine T_skip ?_
        refine X_seq ?_
        refine T_seq ?_
        refine T_block ?_
        refine T_seq ?_
        refine T_sr ?_
        refine S_mv rfl rfl rfl ?_
        refine S_val rfl rfl (Y_lss_f rfl rfl (by omega)) ?_
        refine S_mv rfl rfl rfl ?_
        refine S_skip rfl rfl ?_
        refine S_skip rfl rfl ?_
        refine S_skip rfl rfl ?_
        refine S_skip rfl rfl ?_
        refine S_skip rfl rfl ?_
        refine S_val rfl rfl (Y_pick_f rfl rfl) ?_
        refine S_nx ?_
        refine T_cond_false rfl ?_
        refine T_skip ?_
        refine X_seq ?_
        refine T_region ?_
        refine S_mv rfl rfl rfl ?_
        refine S_val rfl rfl (Y_mulU rfl rfl (nat_cast _) (nat_lit' _) rfl (by simp only [IntKind.bits]; assumption)) ?_
        refine S_mv rfl rfl rfl ?_
        refine S_mv rfl rfl rfl ?_
        refine S_val rfl rfl (Y_ixV (und rfl) (siz rfl) rfl rfl (fun _ hs => hs.rowRd 0 rfl) (nat_cast _) (by assumption)) ?_
        refine S_val rfl rfl (Y_loadV (und rfl) rfl rfl (fun _ hs => hs.rowRd 0 rfl) (bel_get (by assumption))) ?_
        refine S_val rfl rfl (Y_conv (und rfl) (und rfl) rfl (wu64 (by omega) (by omega))) ?_
        refine S_val rfl rfl (Y_addU rfl rfl (nat_cast _) (nat_cast _) rfl (by simp only [IntKind.bits]; assumption)) ?_
        refine S_as rfl rfl rfl ?_
        refine S_nil ?_
        refine X_blk ?_
        refine X_seq ?_
        refine T_region ?_
        refine S_mv rfl rfl rfl ?_
        refine S_val rfl rfl (Y_addN rfl rfl (nat_cast _) (nat_lit' _) (by omega)) ?_
        refine S_as rfl rfl rfl ?_
        refine S_nil ?_
        refine X_loop ?_
        exact ⟨i + 1, by omega, by omega, by rw [hq]; exact (by repeat (first | exact Env.sub_nil _ | (apply Env.sub_cons; rfl))), [], rfl⟩
    · obtain rfl : i = 32 := by omega
      rw [Nat.sub_self, Nat.pow_zero, Nat.div_one]
      refine T_seq ?_
      refine T_sr ?_
      refine S_mv rfl rfl rfl ?_
      refine S_val rfl rfl (Y_lss_f rfl rfl (by decide)) ?_
      refine S_nx ?_
      refine T_cond_false rfl ?_
      refine T_exit ?_
      refine X_seq_exit ?_
      refine X_loop_exit ?_
      refine X_blk_hit rfl ?_
      refine X_seq ?_
      refine T_sr ?_
      refine S_mv rfl rfl rfl ?_
      refine S_as rfl rfl rfl ?_
      refine S_as rfl rfl rfl ?_
      refine S_nx ?_
      refine T_ret ?_
      ((first | refine X_fin_ret ?_ | refine X_fin ?_); exact ⟨[_, _], [], .cons (.tmp rfl) (.cons (.tmp rfl) .nil), Emb.nil _, rfl, rfl⟩)
  · rw [if_neg hs, decide_eq_false hs]
    refine Fn_of (args := [v, .int .i64 k]) Tryd.func9 rfl Tryd.ntmps9 Tryd.results9 (by simp) ?_
    refine T_sr ?_
    refine S_as rfl rfl rfl ?_
    refine S_as rfl rfl rfl ?_
    refine S_nx ?_
    refine T_sr ?_
    refine S_mv rfl rfl rfl ?_
    refine S_mv rfl rfl rfl ?_
    refine S_val rfl rfl (Y_mulN rfl rfl (nat_lit' _) (nat_cast _) (by omega)) ?_
    refine S_callR _ rfl rfl (bod rfl) (fun w hs => pt _ (by first | exact hs.rowRd 0 rfl | exact hs.rowRd 1 rfl | exact hs.rowRd 2 rfl | exact hs.rowRd 3 rfl | exact hs.rowRd 4 rfl | exact hs.rowRd 5 rfl | exact hs.rowRd 6 rfl | exact hs.rowRd 7 rfl | exact hs.rowRd 8 rfl | exact hs.rowRd 9 rfl | exact hs.rowRd 10 rfl | exact hs.rowRd 11 rfl | exact hs.rowRd 12 rfl | exact hs.rowRd 13 rfl | exact Rd.st (by assumption) hs)) rfl rfl fun _ => ?_
    refine S_as rfl rfl rfl ?_
    refine S_nx ?_
    refine T_sr ?_
    refine S_as rfl rfl rfl ?_
    refine S_nx ?_
    refine T_seq ?_
    refine T_sr ?_
    refine S_as rfl rfl rfl ?_
    refine S_nx ?_
    refine T_block ?_
    rename_i vb
    refine T_loop (α := Nat) (fun i => i ≤ 24 ∧ l / 256 ^ (32 - i) = 0)
      (fun i => [(6, vb), (7, .int .u64 0), (8, .int .i64 i)])
      (fun i => [row .u8 (bel 32 l) vb])
      (fun i => 32 - i) 0 ⟨by omega, Nat.div_eq_of_lt hl⟩ (by repeat (first | exact Env.sub_nil _ | (apply Env.sub_cons; rfl))) [] rfl ?_
    rintro i ⟨hi, hi2⟩
    refine T_sh 0 rfl fun hsh => ?_
    rw [bel_length] at hsh
    have h : i < 24 := by
      rcases Nat.lt_or_ge i 24 with h | h
      · exact h
      · obtain rfl : i = 24 := by omega
        omega
    have hd := dig256_lt l (32 - 1 - i)
    have hq : l / 256 ^ (32 - (i + 1)) = l / 256 ^ (32 - i) * 256 + l / 256 ^ (32 - 1 - i) % 256 := by
      rw [show 32 - i = (32 - (i + 1)) + 1 by omega, Nat.pow_succ, ← Nat.div_div_eq_div_mul, show 32 - 1 - i = 32 - (i + 1) by omega]
      omega
    by_cases h0 : l / 256 ^ (32 - 1 - i) % 256 = 0
    · have h0' : ¬ ((l / 256 ^ (32 - 1 - i) % 256 : Nat) : Int) ≠ 0 := by omega
      have h0'' : ((l / 256 ^ (32 - 1 - i) % 256 : Nat) : Int) = 0 := by omega
      have hn : l / 256 ^ (32 - (i + 1)) = 0 := by rw [hq, hi2, h0]
      have hz : (((0 * 256 + l / 256 ^ (32 - 1 - i) % 256) : Nat) : Int) = 0 := by omega
      clear hs hl hi2
      refine T_seq ?_
      refine T_sr ?_
      refine S_mv rfl rfl rfl ?_
      refine S_val rfl rfl (Y_lss_t rfl rfl (by omega)) ?_
      refine S_nx ?_
      refine T_cond_true rfl ?_
      refine T_skip ?_
      refine X_seq ?_
      refine T_seq ?_
      refine T_block ?_
      refine T_seq ?_
      refine T_sr ?_
      refine S_mv rfl rfl rfl ?_
      refine S_val rfl rfl (Y_lss_t rfl rfl (by omega)) ?_
      refine S_mv rfl rfl rfl ?_
      refine S_mv rfl rfl rfl ?_
      refine S_mv rfl rfl rfl ?_
      refine S_val rfl rfl (Y_ixV (und rfl) (siz rfl) rfl rfl (fun _ hs => hs.rowRd 0 rfl) (nat_cast _) (by simp; omega)) ?_
      refine S_val rfl rfl (Y_loadV (und rfl) rfl rfl (fun _ hs => hs.rowRd 0 rfl) (bel_get (by omega))) ?_
      refine S_val rfl rfl (Y_neq_f rfl rfl (by assumption)) ?_
      refine S_val rfl rfl (Y_pick_t rfl rfl) ?_
      refine S_nx ?_
      refine T_cond_false rfl ?_
      refine T_skip ?_
      refine X_seq ?_
      refine T_region ?_
      refine S_mv rfl rfl rfl ?_
      refine S_val rfl rfl (Y_mulU rfl rfl (nat_lit' _) (nat_lit' _) rfl (by simp only [IntKind.bits]; omega)) ?_
      refine S_mv rfl rfl rfl ?_
      refine S_mv rfl rfl rfl ?_
      refine S_val rfl rfl (Y_ixV (und rfl) (siz rfl) rfl rfl (fun _ hs => hs.rowRd 0 rfl) (nat_cast _) (by simp; omega)) ?_
      refine S_val rfl rfl (Y_loadV (und rfl) rfl rfl (fun _ hs => hs.rowRd 0 rfl) (bel_get (by omega))) ?_
      refine S_val rfl rfl (Y_conv (und rfl) (und rfl) rfl (wu64 (by omega) (by omega))) ?_
      refine S_val rfl rfl (Y_addU rfl rfl (nat_cast _) (nat_cast _) rfl (by simp only [IntKind.bits]; omega)) ?_
      refine S_as rfl rfl rfl ?_
      refine S_nil ?_
      refine X_blk ?_
      refine X_seq ?_
      refine T_region ?_
      refine S_mv rfl rfl rfl ?_
      refine S_val rfl rfl (Y_addN rfl rfl (nat_cast _) (nat_lit' _) (by omega)) ?_
      refine S_as rfl rfl rfl ?_
      refine S_nil ?_
      rw [hz]
      refine X_loop ?_
      exact ⟨i + 1, ⟨by omega, hn⟩, by omega, (by repeat (first | exact Env.sub_nil _ | (apply Env.sub_cons; rfl))), [], rfl⟩
    · have h0' : ((l / 256 ^ (32 - 1 - i) % 256 : Nat) : Int) ≠ 0 := by omega
      clear hs hl hi2
      refine T_seq ?_
      refine T_sr ?_
      refine S_mv rfl rfl rfl ?_
      refine S_val rfl rfl (Y_lss_t rfl rfl (by omega)) ?_
      refine S_nx ?_
      refine T_cond_true rfl ?_
      refine T_skip ?_
      refine X_seq ?_
      refine T_seq ?_
      refine T_block ?_
      refine T_seq ?_
      refine T_sr ?_
      refine S_mv rfl rfl rfl ?_
      refine S_val rfl rfl (Y_lss_t rfl rfl (by omega)) ?_
      refine S_mv rfl rfl rfl ?_
      refine S_mv rfl rfl rfl ?_
      refine S_mv rfl rfl rfl ?_
      refine S_val rfl rfl (Y_ixV (und rfl) (siz rfl) rfl rfl (fun _ hs => hs.rowRd 0 rfl) (nat_cast _) (by simp; omega)) ?_
      refine S_val rfl rfl (Y_loadV (und rfl) rfl rfl (fun _ hs => hs.rowRd 0 rfl) (bel_get (by omega))) ?_
      refine S_val rfl rfl (Y_neq_t rfl rfl (by assumption)) ?_
      refine S_val rfl rfl (Y_pick_t rfl rfl) ?_
      refine S_nx ?_
      refine T_cond_true rfl ?_
      refine T_sr ?_
      refine S_as rfl rfl rfl ?_
      refine S_as rfl rfl rfl ?_
      refine S_nx ?_
      refine T_ret ?_
      refine X_seq_ret ?_
      refine X_blk_ret ?_
      refine X_seq_ret ?_
      refine X_loop_ret ?_
      refine X_blk_ret ?_
      refine X_seq_ret ?_
      ((first | refine X_fin_ret ?_ | refine X_fin ?_); exact ⟨[_, _], [], .cons (.tmp rfl) (.cons (.tmp rfl) .nil), Emb.nil _, rfl, rfl⟩)
theorem rtop_any (n x : Nat) (hx : x < 256 ^ n) (hn : n ≤ 32) (v : Value) (w : World) (hr : Rd w v .u8 (bel n x)) :
    Fn Tryd.prog 43 #[v] w fun u N => u = .int .u64 ((bitLen x - 1 : Nat) : Int) ∧ N = [] := by
  have f := fun w h => rfrom_any n x hx (by omega) v w h
  have hx2 : x < 2 ^ 256 := Nat.lt_of_lt_of_le hx (show 256 ^ n ≤ 256 ^ 32 from Nat.pow_le_pow_right (by omega) hn)
  have l := rlen_any x hx2
  have hb : bitLen x ≤ 256 := by
    unfold bitLen
    split
    · omega
    · rename_i h0
      have := (Nat.log2_lt h0).2 hx2
      omega
  generalize bitLen x = b at *
  by_cases h : b = 0
  · subst h
    refine Fn_of (args := [v]) Tryd.func43 rfl Tryd.ntmps43 Tryd.results43 (by simp) ?_
    refine T_sr ?_
    refine S_as rfl rfl rfl ?_
    refine S_nx ?_
    refine T_sr ?_
    refine S_mv rfl rfl rfl ?_
    refine S_callV rfl rfl (bod rfl) (fun w hs => f _ (by first | exact hs.rowRd 0 rfl | exact hs.rowRd 1 rfl | exact hs.rowRd 2 rfl | exact hs.rowRd 3 rfl | exact hs.rowRd 4 rfl | exact hs.rowRd 5 rfl | exact hs.rowRd 6 rfl | exact hs.rowRd 7 rfl | exact hs.rowRd 8 rfl | exact hs.rowRd 9 rfl | exact hs.rowRd 10 rfl | exact hs.rowRd 11 rfl | exact hs.rowRd 12 rfl | exact hs.rowRd 13 rfl | exact Rd.st (by assumption) hs)) rfl rfl ?_
    skip
    refine S_callV rfl rfl (bod rfl) (fun w hs => l _) rfl rfl ?_
    refine S_as rfl rfl rfl ?_
    refine S_nx ?_
    refine T_seq ?_
    refine T_sr ?_
    refine S_mv rfl rfl rfl ?_
    refine S_val rfl rfl (Y_eql_t rfl rfl (by decide)) ?_
    refine S_nx ?_
    refine T_cond_true rfl ?_
    refine T_sr ?_
    refine S_as rfl rfl rfl ?_
    refine S_nx ?_
    refine T_ret ?_
    refine X_seq_ret ?_
    ((first | refine X_fin_ret ?_ | refine X_fin ?_); exact ⟨[_], [], .cons (.tmp rfl) .nil, Emb.nil _, rfl, rfl⟩)
  · refine Fn_of (args := [v]) Tryd.func43 rfl Tryd.ntmps43 Tryd.results43 (by simp) ?_
    refine T_sr ?_
    refine S_as rfl rfl rfl ?_
    refine S_nx ?_
    refine T_sr ?_
    refine S_mv rfl rfl rfl ?_
    refine S_callV rfl rfl (bod rfl) (fun w hs => f _ (by first | exact hs.rowRd 0 rfl | exact hs.rowRd 1 rfl | exact hs.rowRd 2 rfl | exact hs.rowRd 3 rfl | exact hs.rowRd 4 rfl | exact hs.rowRd 5 rfl | exact hs.rowRd 6 rfl | exact hs.rowRd 7 rfl | exact hs.rowRd 8 rfl | exact hs.rowRd 9 rfl | exact hs.rowRd 10 rfl | exact hs.rowRd 11 rfl | exact hs.rowRd 12 rfl | exact hs.rowRd 13 rfl | exact Rd.st (by assumption) hs)) rfl rfl ?_
    skip
    refine S_callV rfl rfl (bod rfl) (fun w hs => l _) rfl rfl ?_
    refine S_as rfl rfl rfl ?_
    refine S_nx ?_
    refine T_seq ?_
    refine T_sr ?_
    refine S_mv rfl rfl rfl ?_
    refine S_val rfl rfl (Y_eql_f rfl rfl (by omega)) ?_
    refine S_nx ?_
    refine T_cond_false rfl ?_
    refine T_skip ?_
    refine X_seq ?_
    refine T_sr ?_
    refine S_mv rfl rfl rfl ?_
    refine S_val rfl rfl (Y_subN rfl rfl (nat_cast _) (nat_lit' _) (by omega) (by omega)) ?_
    refine S_val rfl rfl (Y_conv (und rfl) (und rfl) rfl (wu64 (by omega) (by omega))) ?_
    refine S_as rfl rfl rfl ?_
    refine S_nx ?_
    refine T_ret ?_
    ((first | refine X_fin_ret ?_ | refine X_fin ?_); exact ⟨[_], [], .cons (.tmp rfl) .nil, Emb.nil _, rfl, rfl⟩)
theorem rdigits_any (n : Nat) (hn : n < 18446744073709551616) (w : World) : Fn Tryd.prog 44 #[.int .u64 n] w (NR 8 n) := by
  refine Fn_of (args := [.int .u64 n]) Tryd.func44 rfl Tryd.ntmps44 Tryd.results44 (by simp) ?_
  refine T_sr ?_
  refine S_as rfl rfl rfl ?_
  refine S_nx ?_
  refine T_sr ?_
  refine S_sliceR (und rfl) (siz rfl) (zer rfl) rfl rfl rfl rfl fun _ => ?_
  refine S_as rfl rfl rfl ?_
  refine S_nx ?_
  refine T_seq ?_
  refine T_block ?_
  rename_i v0
  refine T_loopE (α := Nat × Value) (fun a => a.1 ≤ 8)
    (fun a => [(0, .int .u64 ((n / 256 ^ a.1 : Nat) : Int)), (3, a.2)])
    (fun a => [row .i64 (dl 256 a.1 n) a.2])
    (fun a => 8 - a.1) (0, v0) (by dsimp only; omega) (by dsimp only; rw [Nat.pow_zero, Nat.div_one]; exact (by repeat (first | exact Env.sub_nil _ | (apply Env.sub_cons; rfl)))) (Emb.refl _) ?_
  rintro ⟨j, u⟩ hj
  dsimp only at hj ⊢
  have hle : n / 256 ^ j ≤ n := Nat.div_le_self _ _
  by_cases h : n / 256 ^ j = 0
  · have hlt : n < 256 ^ j := by
      rcases Nat.lt_or_ge n (256 ^ j) with h2 | h2
      · exact h2
      · have := Nat.div_pos h2 (Nat.pow_pos (by omega)); omega
    refine T_seq ?_
    refine T_sr ?_
    refine S_mv rfl rfl rfl ?_
    refine S_val rfl rfl (Y_gtr_f rfl rfl (by omega)) ?_
    refine S_nx ?_
    refine T_cond_false rfl ?_
    refine T_exit ?_
    refine X_seq_exit ?_
    refine X_loop_exit ?_
    refine X_blk_hit rfl ?_
    refine X_seq ?_
    refine T_sr ?_
    refine S_mv rfl rfl rfl ?_
    refine S_as rfl rfl rfl ?_
    refine S_nx ?_
    refine T_ret ?_
    ((first | refine X_fin_ret ?_ | refine X_fin ?_); exact ⟨[_], [_], .cons (.tmp rfl) .nil, Emb.one 0 rfl, ⟨j, hlt, hj, rfl⟩⟩)
  · have h8 : j < 8 := by
      rcases Nat.lt_or_ge j 8 with h2 | h2
      · exact h2
      · obtain rfl : j = 8 := by omega
        rw [Nat.div_eq_of_lt (show n < 256 ^ 8 from hn)] at h
        exact absurd rfl h
    have he : dl 256 (j + 1) n = dl 256 j n ++ [((n / 256 ^ j % 256 : Nat) : Int)] := dl_succ 256 j n
    have hq : n / 256 ^ (j + 1) = n / 256 ^ j / 256 := by rw [Nat.pow_succ, Nat.div_div_eq_div_mul]
    have hd := dig256_lt n j
    have h' : (0 : Int) < ((n / 256 ^ j : Nat) : Int) := Int.ofNat_lt.2 (Nat.pos_of_ne_zero h)
    refine T_seq ?_
    refine T_sr ?_
    refine S_mv rfl rfl rfl ?_
    refine S_val rfl rfl (Y_gtr_t rfl rfl (by assumption)) ?_
    refine S_nx ?_
    refine T_cond_true rfl ?_
    refine T_skip ?_
    refine X_seq ?_
    refine T_block ?_
    refine T_sr ?_
    refine S_mv rfl rfl rfl ?_
    refine S_mv rfl rfl rfl ?_
    refine S_val rfl rfl (Y_remN rfl rfl (nat_cast _) (nat_lit' _) (Nat.succ_ne_zero _)) ?_
    refine S_val rfl rfl (Y_conv (und rfl) (und rfl) rfl (wi64 (by omega) (by omega))) ?_
    refine S_sliceR (und rfl) (siz rfl) (zer rfl) rfl rfl rfl rfl fun _ => ?_
    refine S_append 0 rfl (und rfl) (und rfl) (siz rfl) (byt rfl) (zer rfl) rfl rfl rfl (fun _ hs => hs.rowRd 1 rfl) (by simp; omega) rfl rfl rfl fun _ => ?_
    refine S_as rfl rfl rfl ?_
    refine S_nx ?_
    refine T_region ?_
    refine S_mv rfl rfl rfl ?_
    refine S_val rfl rfl (Y_quoN rfl rfl (nat_cast _) (nat_lit' _) (Nat.succ_ne_zero _) (by first | with_reducible exact xi64 (by omega) | with_reducible exact x64 (by omega) | with_reducible exact x8 (by omega) | with_reducible exact x32 (by omega))) ?_
    refine S_as rfl rfl rfl ?_
    refine S_nil ?_
    refine X_blk ?_
    refine X_loop ?_
    exact ⟨(j + 1, _), by dsimp only; omega, by dsimp only; omega, by dsimp only; rw [hq]; exact (by repeat (first | exact Env.sub_nil _ | (apply Env.sub_cons; rfl))), by dsimp only; rw [he]; exact Emb.one 0 rfl⟩
end Go.Proofs.YtjolmphkmfbpbaaDoor
/- The reference of layer 6: numbers of any length (as the references of layers 2 and 9 have them). -/
namespace Go.Proofs.YtjolmphkmfbpbaaDoor
open Go.RowKit
set_option maxRecDepth 20000
set_option maxHeartbeats 40000000
theorem digits06_any (n : Nat) (hn : n < 18446744073709551616) (w : World) : Fn Tryd.prog 79 #[.int .u64 n] w (NR 8 n) := by
  refine Fn_of (args := [.int .u64 n]) Tryd.func79 rfl Tryd.ntmps79 Tryd.results79 (by simp) ?_
  refine T_sr ?_
  refine S_as rfl rfl rfl ?_
  refine S_nx ?_
  refine T_sr ?_
  refine S_sliceR (und rfl) (siz rfl) (zer rfl) rfl rfl rfl rfl fun _ => ?_
  refine S_as rfl rfl rfl ?_
  refine S_nx ?_
  refine T_seq ?_
  refine T_block ?_
  rename_i v0
  refine T_loopE (α := Nat × Value) (fun a => a.1 ≤ 8)
    (fun a => [(0, .int .u64 ((n / 256 ^ a.1 : Nat) : Int)), (3, a.2)])
    (fun a => [row .i64 (dl 256 a.1 n) a.2])
    (fun a => 8 - a.1) (0, v0) (by dsimp only; omega) (by dsimp only; rw [Nat.pow_zero, Nat.div_one]; exact (by repeat (first | exact Env.sub_nil _ | (apply Env.sub_cons; rfl)))) (Emb.refl _) ?_
  rintro ⟨j, u⟩ hj
  dsimp only at hj ⊢
  have hle : n / 256 ^ j ≤ n := Nat.div_le_self _ _
  by_cases h : n / 256 ^ j = 0
  · have hlt : n < 256 ^ j := by
      rcases Nat.lt_or_ge n (256 ^ j) with h2 | h2
      · exact h2
      · have := Nat.div_pos h2 (Nat.pow_pos (by omega)); omega
    refine T_seq ?_
    refine T_sr ?_
    refine S_mv rfl rfl rfl ?_
    refine S_val rfl rfl (Y_gtr_f rfl rfl (by omega)) ?_
    refine S_nx ?_
    refine T_cond_false rfl ?_
    refine T_exit ?_
    refine X_seq_exit ?_
    refine X_loop_exit ?_
    refine X_blk_hit rfl ?_
    refine X_seq ?_
    refine T_sr ?_
    refine S_mv rfl rfl rfl ?_
    refine S_as rfl rfl rfl ?_
    refine S_nx ?_
    refine T_ret ?_
    ((first | refine X_fin_ret ?_ | refine X_fin ?_); exact ⟨[_], [_], .cons (.tmp rfl) .nil, Emb.one 0 rfl, ⟨j, hlt, hj, rfl⟩⟩)
  · have h8 : j < 8 := by
      rcases Nat.lt_or_ge j 8 with h2 | h2
      · exact h2
      · obtain rfl : j = 8 := by omega
        rw [Nat.div_eq_of_lt (show n < 256 ^ 8 from hn)] at h
        exact absurd rfl h
    have he : dl 256 (j + 1) n = dl 256 j n ++ [((n / 256 ^ j % 256 : Nat) : Int)] := dl_succ 256 j n
    have hq : n / 256 ^ (j + 1) = n / 256 ^ j / 256 := by rw [Nat.pow_succ, Nat.div_div_eq_div_mul]
    have hd := dig256_lt n j
    have h' : (0 : Int) < ((n / 256 ^ j : Nat) : Int) := Int.ofNat_lt.2 (Nat.pos_of_ne_zero h)
    refine T_seq ?_
    refine T_sr ?_
    refine S_mv rfl rfl rfl ?_
    refine S_val rfl rfl (Y_gtr_t rfl rfl (by assumption)) ?_
    refine S_nx ?_
    refine T_cond_true rfl ?_
    refine T_skip ?_
    refine X_seq ?_
    refine T_block ?_
    refine T_sr ?_
    refine S_mv rfl rfl rfl ?_
    refine S_mv rfl rfl rfl ?_
    refine S_val rfl rfl (Y_remN rfl rfl (nat_cast _) (nat_lit' _) (Nat.succ_ne_zero _)) ?_
    refine S_val rfl rfl (Y_conv (und rfl) (und rfl) rfl (wi64 (by omega) (by omega))) ?_
    refine S_sliceR (und rfl) (siz rfl) (zer rfl) rfl rfl rfl rfl fun _ => ?_
    refine S_append 0 rfl (und rfl) (und rfl) (siz rfl) (byt rfl) (zer rfl) rfl rfl rfl (fun _ hs => hs.rowRd 1 rfl) (by simp; omega) rfl rfl rfl fun _ => ?_
    refine S_as rfl rfl rfl ?_
    refine S_nx ?_
    refine T_region ?_
    refine S_mv rfl rfl rfl ?_
    refine S_val rfl rfl (Y_quoN rfl rfl (nat_cast _) (nat_lit' _) (Nat.succ_ne_zero _) (by first | with_reducible exact xi64 (by omega) | with_reducible exact x64 (by omega) | with_reducible exact x8 (by omega) | with_reducible exact x32 (by omega))) ?_
    refine S_as rfl rfl rfl ?_
    refine S_nil ?_
    refine X_blk ?_
    refine X_loop ?_
    exact ⟨(j + 1, _), by dsimp only; omega, by dsimp only; omega, by dsimp only; rw [hq]; exact (by repeat (first | exact Env.sub_nil _ | (apply Env.sub_cons; rfl))), by dsimp only; rw [he]; exact Emb.one 0 rfl⟩
theorem at06_any (x n i : Nat) (hx : x < 256 ^ n) (_hi : i < 1000000000000) (v : Value) (w : World) (hr : Rd w v .i64 (dl 256 n x)) :
    Fn Tryd.prog 81 #[v, .int .i64 i] w fun u N => u = .int .i64 ((x / 256 ^ i % 256 : Nat) : Int) ∧ N = [] := by
  by_cases h : i < n
  · refine Fn_of (args := [v, .int .i64 i]) Tryd.func81 rfl Tryd.ntmps81 Tryd.results81 (by simp) ?_
    refine T_sr ?_
    refine S_as rfl rfl rfl ?_
    refine S_nx ?_
    refine T_seq ?_
    refine T_sr ?_
    refine S_mv rfl rfl rfl ?_
    refine S_mv rfl rfl rfl ?_
    refine S_val rfl rfl (Y_lenV rfl (und rfl) rfl (fun _ hs => Rd.st (by assumption) hs) (dl_length _ _ _)) ?_
    refine S_val rfl rfl (Y_lss_t rfl rfl (by omega)) ?_
    refine S_nx ?_
    refine T_cond_true rfl ?_
    refine T_sr ?_
    refine S_mv rfl rfl rfl ?_
    refine S_mv rfl rfl rfl ?_
    refine S_val rfl rfl (Y_ixV (und rfl) (siz rfl) rfl rfl (fun _ hs => Rd.st (by assumption) hs) (nat_cast _) (dl_lt (by assumption))) ?_
    refine S_val rfl rfl (Y_loadV (und rfl) rfl rfl (fun _ hs => Rd.st (by assumption) hs) (dl_get (by assumption))) ?_
    refine S_as rfl rfl rfl ?_
    refine S_nx ?_
    refine T_ret ?_
    refine X_seq_ret ?_
    ((first | refine X_fin_ret ?_ | refine X_fin ?_); exact ⟨[_], [], .cons (.tmp rfl) .nil, Emb.nil _, rfl, rfl⟩)
  · refine Fn_of (args := [v, .int .i64 i]) Tryd.func81 rfl Tryd.ntmps81 Tryd.results81 (by simp) ?_
    refine T_sr ?_
    refine S_as rfl rfl rfl ?_
    refine S_nx ?_
    refine T_seq ?_
    refine T_sr ?_
    refine S_mv rfl rfl rfl ?_
    refine S_mv rfl rfl rfl ?_
    refine S_val rfl rfl (Y_lenV rfl (und rfl) rfl (fun _ hs => Rd.st (by assumption) hs) (dl_length _ _ _)) ?_
    refine S_val rfl rfl (Y_lss_f rfl rfl (by omega)) ?_
    refine S_nx ?_
    refine T_cond_false rfl ?_
    refine T_skip ?_
    refine X_seq ?_
    refine T_sr ?_
    refine S_as rfl rfl rfl ?_
    refine S_nx ?_
    refine T_ret ?_
    ((first | refine X_fin_ret ?_ | refine X_fin ?_); exact ⟨[_], [], .cons (.tmp rfl) .nil, Emb.nil _, by rw [dig_high' (by omega) hx (by omega)]; rfl, rfl⟩)
theorem times06_any (x y n m : Nat) (hx : x < 256 ^ n) (hy : y < 256 ^ m) (hn : n ≤ 1000000) (hm : m ≤ 1000000) (v u : Value) (w : World) (hv : Rd w v .i64 (dl 256 n x)) (hu : Rd w u .i64 (dl 256 m y)) :
    Fn Tryd.prog 80 #[v, u] w fun r N => N = [row .i64 (dl 256 (n + m + 1) (x * y)) r] := by
  refine Fn_of (args := [v, u]) Tryd.func80 rfl Tryd.ntmps80 Tryd.results80 (by simp) ?_
  refine T_sr ?_
  refine S_as rfl rfl rfl ?_
  refine S_nx ?_
  refine T_sr ?_
  refine S_mv rfl rfl rfl ?_
  refine S_val rfl rfl (Y_lenV rfl (und rfl) rfl (fun _ hs => Rd.st (by assumption) hs) (dl_length _ _ _)) ?_
  refine S_mv rfl rfl rfl ?_
  refine S_val rfl rfl (Y_lenV rfl (und rfl) rfl (fun _ hs => Rd.st (by assumption) hs) (dl_length _ _ _)) ?_
  refine S_val rfl rfl (Y_addN rfl rfl (nat_cast _) (nat_cast _) (by omega)) ?_
  refine S_val rfl rfl (Y_addN rfl rfl (nat_cast _) (nat_lit' _) (by omega)) ?_
  refine S_makeR (und rfl) (siz rfl) (byt rfl) (zer rfl) rfl rfl (nat_cast _) (by omega) rfl rfl rfl fun _ => ?_
  refine S_as rfl rfl rfl ?_
  refine S_nx ?_
  refine T_seq ?_
  refine T_sr ?_
  refine S_mv rfl rfl rfl ?_
  refine S_val rfl rfl (Y_lenV rfl (und rfl) rfl (fun _ hs => Rd.st (by assumption) hs) (dl_length _ _ _)) ?_
  refine S_mv rfl rfl rfl ?_
  refine S_nx ?_
  refine T_block ?_
  rename_i vo
  refine T_loop (α := Nat × Nat) (fun a => a.1 ≤ n ∧ a.2 = x % 256 ^ a.1 * y)
    (fun a => [(0, v), (1, u), (5, vo), (18, .int .i64 n), (19, .int .i64 a.1)])
    (fun a => [row .i64 (dl 256 (n + m + 1) a.2) vo])
    (fun a => n - a.1) (0, 0) (by simp [Nat.mod_one]) (by repeat (first | exact Env.sub_nil _ | (apply Env.sub_cons; rfl))) [] (by dsimp only; rw [dl_zero]; rfl) ?_
  rintro ⟨i, o⟩ ⟨hi, ho⟩
  dsimp only at hi ho ⊢
  by_cases h : i < n
  · have hxi := dig256_lt x i
    refine T_sr ?_
    refine S_val rfl rfl (Y_lss_t rfl rfl (by omega)) ?_
    refine S_nx ?_
    refine T_seq ?_
    refine T_cond_true rfl ?_
    refine T_skip ?_
    refine X_seq ?_
    refine T_seq ?_
    refine T_block ?_
    refine T_sr ?_
    refine S_mv rfl rfl rfl ?_
    refine S_as rfl rfl rfl ?_
    refine S_nx ?_
    refine T_sr ?_
    refine S_as rfl rfl rfl ?_
    refine S_nx ?_
    refine T_sr ?_
    refine S_as rfl rfl rfl ?_
    refine S_nx ?_
    refine T_block ?_
    refine T_loop (α := Nat × Nat × Nat) (fun a => a.1 ≤ n + m + 1 ∧ a.2.1 < 256 ∧ a.2.2 + a.2.1 * 256 ^ (i + a.1) = o + x / 256 ^ i % 256 * (y % 256 ^ a.1) * 256 ^ i)
      (fun a => [(0, v), (1, u), (5, vo), (6, .int .i64 i), (7, .int .i64 a.2.1), (8, .int .i64 a.1), (18, .int .i64 n), (19, .int .i64 i)])
      (fun a => [row .i64 (dl 256 (n + m + 1) a.2.2) vo])
      (fun a => n + m + 1 - a.1) (0, 0, o) (by simp [Nat.mod_one]) (by repeat (first | exact Env.sub_nil _ | (apply Env.sub_cons; rfl))) [] rfl ?_
    rintro ⟨j, c, p⟩ ⟨hj, hc, hp⟩
    dsimp only at hj hc hp ⊢
    refine T_sh 0 rfl fun hsh => ?_
    rw [dl_length] at hsh
    have hyj := dig256_lt y j
    have hpj := dig256_lt p (i + j)
    have hxy : x / 256 ^ i % 256 * (y / 256 ^ j % 256) ≤ 255 * 255 := Nat.mul_le_mul (by omega) (by omega)
    have hstep : (p - p / 256 ^ (i + j) % 256 * 256 ^ (i + j) + (p / 256 ^ (i + j) % 256 + x / 256 ^ i % 256 * (y / 256 ^ j % 256) + c) % 256 * 256 ^ (i + j)) + (p / 256 ^ (i + j) % 256 + x / 256 ^ i % 256 * (y / 256 ^ j % 256) + c) / 256 * 256 ^ (i + (j + 1)) = o + x / 256 ^ i % 256 * (y % 256 ^ (j + 1)) * 256 ^ i := by
      have hs := split_at 256 (i + j) p
      have hy2 := mod_pow_succ' y 256 j
      rw [hy2]
      generalize x / 256 ^ i % 256 = xi at *
      generalize y / 256 ^ j % 256 = yj at *
      generalize p / 256 ^ (i + j) % 256 = pj at *
      have hP : (256 : Nat) ^ (i + (j + 1)) = 256 * 256 ^ (i + j) := by rw [← Nat.add_assoc, Nat.pow_succ, Nat.mul_comm]
      have hQ : xi * (y % 256 ^ j + yj * 256 ^ j) * 256 ^ i = xi * (y % 256 ^ j) * 256 ^ i + xi * yj * 256 ^ (i + j) := by
        rw [Nat.mul_add, Nat.add_mul, ← Nat.mul_assoc xi yj, Nat.mul_assoc (xi * yj), ← Nat.pow_add, Nat.add_comm j i]
      rw [hP, hQ, ← Nat.mul_assoc]
      generalize xi * yj = m at *
      generalize hl : (pj + m + c) % 256 = l2
      generalize hcc : (pj + m + c) / 256 = c2
      have key : l2 + c2 * 256 = m + pj + c := by omega
      have k2 := congrArg (· * 256 ^ (i + j)) key
      simp only [Nat.add_mul] at k2
      omega
    by_cases h1 : j < m
    · have hb : i + j < n + m + 1 := by omega
      refine T_seq ?_
      refine T_sr ?_
      refine S_mv rfl rfl rfl ?_
      refine S_mv rfl rfl rfl ?_
      refine S_val rfl rfl (Y_lenV rfl (und rfl) rfl (fun _ hs => Rd.st (by assumption) hs) (dl_length _ _ _)) ?_
      refine S_val rfl rfl (Y_lss_t rfl rfl (by omega)) ?_
      refine S_mv rfl rfl rfl ?_
      refine S_skip rfl rfl ?_
      refine S_skip rfl rfl ?_
      refine S_val rfl rfl (Y_pick_t rfl rfl) ?_
      refine S_nx ?_
      refine T_cond_true rfl ?_
      refine T_skip ?_
      refine X_seq ?_
      refine T_seq ?_
      refine T_block ?_
      refine T_seq ?_
      refine T_draw (by kernel_rfl) (by kernel_rfl) rfl ?_
      refine D0_val rfl rfl rfl (Y_move rfl) ?_
      refine D0_val rfl rfl rfl (Y_move rfl) ?_
      refine D0_val rfl rfl rfl (Y_move rfl) ?_
      refine D0_val rfl rfl rfl (Y_addN rfl rfl (nat_cast _) (nat_cast _) (by omega)) ?_
      refine D0_val rfl rfl rfl (Y_ixS (und rfl) (siz rfl) rfl rfl (by assumption) (nat_cast _) (by assumption)) ?_
      refine D0_valM rfl rfl rfl (Y_loadV (und rfl) rfl rfl (fun _ hs => hs.rowRd 0 rfl) (dl_get (by assumption))) ?_
      refine D0_val rfl rfl rfl (Y_move rfl) ?_
      refine D0_val rfl rfl rfl (Y_move rfl) ?_
      refine D0_val rfl rfl rfl (Y_ixV (und rfl) (siz rfl) rfl rfl (fun _ hs => Rd.st (by assumption) hs) (nat_cast _) (dl_lt (by assumption))) ?_
      refine D0_valM rfl rfl rfl (Y_loadV (und rfl) rfl rfl (fun _ hs => Rd.st (by assumption) hs) (dl_get (by assumption))) ?_
      refine D0_val rfl rfl rfl (Y_move rfl) ?_
      refine D0_val rfl rfl rfl (Y_move rfl) ?_
      refine D0_callV rfl rfl (bod rfl) (fun w hs => at06_any y m j hy (by omega) u _ (by first | exact hs.rowRd 0 rfl | exact hs.rowRd 1 rfl | exact hs.rowRd 2 rfl | exact hs.rowRd 3 rfl | exact hs.rowRd 4 rfl | exact hs.rowRd 5 rfl | exact hs.rowRd 6 rfl | exact hs.rowRd 7 rfl | exact hs.rowRd 8 rfl | exact hs.rowRd 9 rfl | exact hs.rowRd 10 rfl | exact hs.rowRd 11 rfl | exact hs.rowRd 12 rfl | exact hs.rowRd 13 rfl | exact Rd.st (by assumption) hs)) rfl rfl ?_
      refine D0_val rfl rfl rfl (Y_mulN rfl rfl (nat_cast _) (nat_cast _) (by omega)) ?_
      refine D0_val rfl rfl rfl (Y_addN rfl rfl (nat_cast _) (nat_cast _) (by omega)) ?_
      refine D0_val rfl rfl rfl (Y_move rfl) ?_
      refine D0_val rfl rfl rfl (Y_addN rfl rfl (nat_cast _) (nat_cast _) (by omega)) ?_
      refine D0_val rfl rfl rfl (Y_assign rfl) ?_
      refine D0_nil ?_
      refine X_seq ?_
      refine T_sr ?_
      refine S_mv rfl rfl rfl ?_
      refine S_mv rfl rfl rfl ?_
      refine S_mv rfl rfl rfl ?_
      refine S_val rfl rfl (Y_addN rfl rfl (nat_cast _) (nat_cast _) (by omega)) ?_
      refine S_mv rfl rfl rfl ?_
      refine S_val rfl rfl (Y_remN rfl rfl (nat_cast _) (nat_lit' _) (Nat.succ_ne_zero _)) ?_
      refine S_val rfl rfl (Y_ixV (und rfl) (siz rfl) rfl rfl (fun _ hs => hs.rowRd 0 rfl) (nat_cast _) (dl_lt (by assumption))) ?_
      refine S_storeR 0 (siz rfl) rfl rfl rfl (dl_lt (by assumption)) rfl ?_
      refine S_nx ?_
      refine T_region ?_
      refine S_mv rfl rfl rfl ?_
      refine S_val rfl rfl (Y_quoN rfl rfl (nat_cast _) (nat_lit' _) (Nat.succ_ne_zero _) (by first | with_reducible exact xi64 (by omega) | with_reducible exact x64 (by omega) | with_reducible exact x8 (by omega) | with_reducible exact x32 (by omega))) ?_
      refine S_as rfl rfl rfl ?_
      refine S_nil ?_
      refine X_blk ?_
      refine X_seq ?_
      refine T_region ?_
      refine S_mv rfl rfl rfl ?_
      refine S_val rfl rfl (Y_addN rfl rfl (nat_cast _) (nat_lit' _) (by omega)) ?_
      refine S_as rfl rfl rfl ?_
      refine S_nil ?_
      refine X_loop ?_
      refine ⟨(j + 1, _, _), ⟨by dsimp only; omega, by dsimp only; omega, hstep⟩, by dsimp only; omega, (by repeat (first | exact Env.sub_nil _ | (apply Env.sub_cons; rfl))), ?_⟩
      dsimp only
      rw [← dl_put (by omega) (Nat.mod_lt _ (by omega))]
      exact ⟨_, rfl⟩
    · have hyy : y % 256 ^ j = y := Nat.mod_eq_of_lt (Nat.lt_of_lt_of_le hy (Nat.pow_le_pow_right (by omega) (by omega)))
      have hsum : p + c * 256 ^ (i + j) = x % 256 ^ (i + 1) * y := by
        rw [hp, hyy, ho, mod_pow_succ', Nat.add_mul, Nat.mul_right_comm]
      by_cases h2 : 0 < c
      · have hb0 : i + j < n + m := by
          have e1 : x % 256 ^ (i + 1) * y < 256 ^ (i + 1) * 256 ^ m := Nat.mul_lt_mul'' (Nat.mod_lt _ (Nat.pow_pos (by omega))) hy
          have e2 : 256 ^ (i + j) ≤ c * 256 ^ (i + j) := Nat.le_mul_of_pos_left _ h2
          have e3 : (256 : Nat) ^ (i + j) < 256 ^ (i + 1 + m) := by rw [Nat.pow_add 256 (i + 1)]; omega
          have := (Nat.pow_lt_pow_iff_right (by omega : 1 < 256)).1 e3
          omega
        have hb : i + j < n + m + 1 := by omega
        refine T_seq ?_
        refine T_sr ?_
        refine S_mv rfl rfl rfl ?_
        refine S_mv rfl rfl rfl ?_
        refine S_val rfl rfl (Y_lenV rfl (und rfl) rfl (fun _ hs => Rd.st (by assumption) hs) (dl_length _ _ _)) ?_
        refine S_val rfl rfl (Y_lss_f rfl rfl (by omega)) ?_
        refine S_mv rfl rfl rfl ?_
        refine S_mv rfl rfl rfl ?_
        refine S_val rfl rfl (Y_gtr_t rfl rfl (by omega)) ?_
        refine S_val rfl rfl (Y_pick_f rfl rfl) ?_
        refine S_nx ?_
        refine T_cond_true rfl ?_
        refine T_skip ?_
        refine X_seq ?_
        refine T_seq ?_
        refine T_block ?_
        refine T_seq ?_
        refine T_draw (by kernel_rfl) (by kernel_rfl) rfl ?_
        refine D0_val rfl rfl rfl (Y_move rfl) ?_
        refine D0_val rfl rfl rfl (Y_move rfl) ?_
        refine D0_val rfl rfl rfl (Y_move rfl) ?_
        refine D0_val rfl rfl rfl (Y_addN rfl rfl (nat_cast _) (nat_cast _) (by omega)) ?_
        refine D0_val rfl rfl rfl (Y_ixS (und rfl) (siz rfl) rfl rfl (by assumption) (nat_cast _) (by assumption)) ?_
        refine D0_valM rfl rfl rfl (Y_loadV (und rfl) rfl rfl (fun _ hs => hs.rowRd 0 rfl) (dl_get (by assumption))) ?_
        refine D0_val rfl rfl rfl (Y_move rfl) ?_
        refine D0_val rfl rfl rfl (Y_move rfl) ?_
        refine D0_val rfl rfl rfl (Y_ixV (und rfl) (siz rfl) rfl rfl (fun _ hs => Rd.st (by assumption) hs) (nat_cast _) (dl_lt (by assumption))) ?_
        refine D0_valM rfl rfl rfl (Y_loadV (und rfl) rfl rfl (fun _ hs => Rd.st (by assumption) hs) (dl_get (by assumption))) ?_
        refine D0_val rfl rfl rfl (Y_move rfl) ?_
        refine D0_val rfl rfl rfl (Y_move rfl) ?_
        refine D0_callV rfl rfl (bod rfl) (fun w hs => at06_any y m j hy (by omega) u _ (by first | exact hs.rowRd 0 rfl | exact hs.rowRd 1 rfl | exact hs.rowRd 2 rfl | exact hs.rowRd 3 rfl | exact hs.rowRd 4 rfl | exact hs.rowRd 5 rfl | exact hs.rowRd 6 rfl | exact hs.rowRd 7 rfl | exact hs.rowRd 8 rfl | exact hs.rowRd 9 rfl | exact hs.rowRd 10 rfl | exact hs.rowRd 11 rfl | exact hs.rowRd 12 rfl | exact hs.rowRd 13 rfl | exact Rd.st (by assumption) hs)) rfl rfl ?_
        refine D0_val rfl rfl rfl (Y_mulN rfl rfl (nat_cast _) (nat_cast _) (by omega)) ?_
        refine D0_val rfl rfl rfl (Y_addN rfl rfl (nat_cast _) (nat_cast _) (by omega)) ?_
        refine D0_val rfl rfl rfl (Y_move rfl) ?_
        refine D0_val rfl rfl rfl (Y_addN rfl rfl (nat_cast _) (nat_cast _) (by omega)) ?_
        refine D0_val rfl rfl rfl (Y_assign rfl) ?_
        refine D0_nil ?_
        refine X_seq ?_
        refine T_sr ?_
        refine S_mv rfl rfl rfl ?_
        refine S_mv rfl rfl rfl ?_
        refine S_mv rfl rfl rfl ?_
        refine S_val rfl rfl (Y_addN rfl rfl (nat_cast _) (nat_cast _) (by omega)) ?_
        refine S_mv rfl rfl rfl ?_
        refine S_val rfl rfl (Y_remN rfl rfl (nat_cast _) (nat_lit' _) (Nat.succ_ne_zero _)) ?_
        refine S_val rfl rfl (Y_ixV (und rfl) (siz rfl) rfl rfl (fun _ hs => hs.rowRd 0 rfl) (nat_cast _) (dl_lt (by assumption))) ?_
        refine S_storeR 0 (siz rfl) rfl rfl rfl (dl_lt (by assumption)) rfl ?_
        refine S_nx ?_
        refine T_region ?_
        refine S_mv rfl rfl rfl ?_
        refine S_val rfl rfl (Y_quoN rfl rfl (nat_cast _) (nat_lit' _) (Nat.succ_ne_zero _) (by first | with_reducible exact xi64 (by omega) | with_reducible exact x64 (by omega) | with_reducible exact x8 (by omega) | with_reducible exact x32 (by omega))) ?_
        refine S_as rfl rfl rfl ?_
        refine S_nil ?_
        refine X_blk ?_
        refine X_seq ?_
        refine T_region ?_
        refine S_mv rfl rfl rfl ?_
        refine S_val rfl rfl (Y_addN rfl rfl (nat_cast _) (nat_lit' _) (by omega)) ?_
        refine S_as rfl rfl rfl ?_
        refine S_nil ?_
        refine X_loop ?_
        refine ⟨(j + 1, _, _), ⟨by dsimp only; omega, by dsimp only; omega, hstep⟩, by dsimp only; omega, (by repeat (first | exact Env.sub_nil _ | (apply Env.sub_cons; rfl))), ?_⟩
        dsimp only
        rw [← dl_put (by omega) (Nat.mod_lt _ (by omega))]
        exact ⟨_, rfl⟩
      · obtain rfl : c = 0 := by omega
        refine T_seq ?_
        refine T_sr ?_
        refine S_mv rfl rfl rfl ?_
        refine S_mv rfl rfl rfl ?_
        refine S_val rfl rfl (Y_lenV rfl (und rfl) rfl (fun _ hs => Rd.st (by assumption) hs) (dl_length _ _ _)) ?_
        refine S_val rfl rfl (Y_lss_f rfl rfl (by omega)) ?_
        refine S_mv rfl rfl rfl ?_
        refine S_mv rfl rfl rfl ?_
        refine S_val rfl rfl (Y_gtr_f rfl rfl (by decide)) ?_
        refine S_val rfl rfl (Y_pick_f rfl rfl) ?_
        refine S_nx ?_
        refine T_cond_false rfl ?_
        refine T_exit ?_
        refine X_seq_exit ?_
        refine X_loop_exit ?_
        refine X_blk_hit rfl ?_
        refine X_blk ?_
        refine X_seq ?_
        refine T_region ?_
        refine S_val rfl rfl (Y_addN rfl rfl (nat_cast _) (nat_lit' _) (by omega)) ?_
        refine S_mv rfl rfl rfl ?_
        refine S_nil ?_
        refine X_loop ?_
        exact ⟨(i + 1, p), ⟨by dsimp only; omega, by simpa using hsum⟩, by dsimp only; omega, (by repeat (first | exact Env.sub_nil _ | (apply Env.sub_cons; rfl))), [], rfl⟩
  · obtain rfl : i = n := by omega
    have : o = x * y := by rw [ho, Nat.mod_eq_of_lt hx]
    subst this
    refine T_sr ?_
    refine S_val rfl rfl (Y_lss_f rfl rfl (by omega)) ?_
    refine S_nx ?_
    refine T_seq ?_
    refine T_cond_false rfl ?_
    refine T_exit ?_
    refine X_seq_exit ?_
    refine X_loop_exit ?_
    refine X_blk_hit rfl ?_
    refine X_seq ?_
    refine T_sr ?_
    refine S_mv rfl rfl rfl ?_
    refine S_as rfl rfl rfl ?_
    refine S_nx ?_
    refine T_ret ?_
    ((first | refine X_fin_ret ?_ | refine X_fin ?_); exact ⟨[_], [_], .cons (.tmp rfl) .nil, Emb.one 0 rfl, rfl⟩)
end Go.Proofs.YtjolmphkmfbpbaaDoor
/- The reference of layer 6: below, root. -/
namespace Go.Proofs.YtjolmphkmfbpbaaDoor
open Go.RowKit
set_option maxRecDepth 20000
set_option maxHeartbeats 40000000
theorem dl_up (k j p : Nat) : dl 256 k 0 ++ dl 256 j p = dl 256 (k + j) (p * 256 ^ k) := by
  refine List.ext_getElem? fun i => ?_
  by_cases h : i < k
  · rw [List.getElem?_append_left (by rwa [dl_length]), dl_get h, dl_get (by omega), Nat.zero_div, show k = (k - i - 1) + 1 + i by omega, Nat.pow_add, ← Nat.mul_assoc, Nat.mul_div_cancel _ (Nat.pow_pos (by omega)), Nat.pow_succ, ← Nat.mul_assoc, Nat.mul_mod_left]
  · rw [List.getElem?_append_right (by rw [dl_length]; omega), dl_length]
    by_cases h2 : i < k + j
    · rw [dl_get (by omega), dl_get h2]
      conv => rhs; rw [show i = k + (i - k) by omega, Nat.pow_add, ← Nat.div_div_eq_div_mul, Nat.mul_div_cancel _ (Nat.pow_pos (by omega))]
    · rw [List.getElem?_eq_none (by rw [dl_length]; omega), List.getElem?_eq_none (by rw [dl_length]; omega)]
theorem sq_lt {x a b c : Nat} (h : x < 256 ^ a) {y : Nat} (h2 : y < 256 ^ b) (hc : a + b + 1 = c) : y * x < 256 ^ c := by
  rw [← hc, Nat.pow_succ, Nat.pow_add]
  have := Nat.mul_lt_mul'' h2 h
  rw [Nat.mul_comm (256 ^ b)] at this
  exact Nat.lt_of_lt_of_le this (Nat.le_mul_of_pos_right _ (by omega))
theorem below06_sq (n p : Nat) (hn : n < 18446744073709551616) (hp : p < 18446744073709551616) (w : World) : Fn Tryd.prog 72 #[.int .u64 n, .int .u64 p, .bool false] w fun v N => v = .bool (decide (n * n ≤ p * 256 ^ 8)) ∧ N = [] := by
  obtain ⟨Z, hZ0⟩ : ∃ z, p * 256 ^ 8 = z := ⟨_, rfl⟩
  rw [hZ0]
  refine Fn_of (args := [.int .u64 n, .int .u64 p, .bool false]) Tryd.func72 rfl Tryd.ntmps72 Tryd.results72 (by simp) ?_
  refine T_sr ?_
  refine S_as rfl rfl rfl ?_
  refine S_nx ?_
  refine T_sr ?_
  refine S_mv rfl rfl rfl ?_
  refine S_call _ rfl rfl (bod rfl) (fun w hs => digits06_any n hn _) rfl rfl ?_
  rintro ux _ ⟨j, hlt, hj, rfl⟩
  refine S_as rfl rfl rfl ?_
  refine S_nx ?_
  refine T_sr ?_
  refine S_mv rfl rfl rfl ?_
  refine S_mv rfl rfl rfl ?_
  refine S_callR _ rfl rfl (bod rfl) (fun w hs => times06_any n n j j hlt hlt (by omega) (by omega) _ _ _ (by first | exact hs.rowRd 0 rfl | exact hs.rowRd 1 rfl | exact hs.rowRd 2 rfl | exact hs.rowRd 3 rfl | exact hs.rowRd 4 rfl | exact hs.rowRd 5 rfl | exact hs.rowRd 6 rfl | exact hs.rowRd 7 rfl | exact hs.rowRd 8 rfl | exact hs.rowRd 9 rfl | exact hs.rowRd 10 rfl | exact hs.rowRd 11 rfl | exact hs.rowRd 12 rfl | exact hs.rowRd 13 rfl | exact Rd.st (by assumption) hs) (by first | exact hs.rowRd 0 rfl | exact hs.rowRd 1 rfl | exact hs.rowRd 2 rfl | exact hs.rowRd 3 rfl | exact hs.rowRd 4 rfl | exact hs.rowRd 5 rfl | exact hs.rowRd 6 rfl | exact hs.rowRd 7 rfl | exact hs.rowRd 8 rfl | exact hs.rowRd 9 rfl | exact hs.rowRd 10 rfl | exact hs.rowRd 11 rfl | exact hs.rowRd 12 rfl | exact hs.rowRd 13 rfl | exact Rd.st (by assumption) hs)) rfl rfl fun _ => ?_
  refine S_as rfl rfl rfl ?_
  refine S_nx ?_
  refine T_sr ?_
  refine S_as rfl rfl rfl ?_
  refine S_nx ?_
  refine T_seq ?_
  refine T_sr ?_
  refine S_mv rfl rfl rfl ?_
  refine S_nx ?_
  refine T_cond_false rfl ?_
  refine T_skip ?_
  refine X_seq ?_
  refine T_sr ?_
  refine S_sliceR (und rfl) (siz rfl) (zer rfl) rfl rfl rfl rfl fun _ => ?_
  refine S_as rfl rfl rfl ?_
  refine S_nx ?_
  refine T_seq ?_
  refine T_sr ?_
  refine S_as rfl rfl rfl ?_
  refine S_nx ?_
  refine T_block ?_
  rename_i uy z0
  obtain ⟨ny, hny⟩ : ∃ k, j + j + 1 = k := ⟨_, rfl⟩
  have hny2 : ny ≤ 100 := by omega
  have hY := sq_lt hlt hlt hny
  rw [hny]
  clear hny
  generalize n * n = Y at *
  refine T_loopE (α := Nat × Value) (fun a => a.1 ≤ 8)
    (fun a => [(1, .int .u64 p), (8, uy), (9, .int .i64 (8 : Nat)), (10, a.2), (11, .int .i64 a.1)])
    (fun a => [row .i64 (dl 256 ny Y) uy, row .i64 (dl 256 a.1 0) a.2])
    (fun a => 8 - a.1) (0, z0) (by dsimp only; omega) (by repeat (first | exact Env.sub_nil _ | (apply Env.sub_cons; rfl))) (Emb.idx [1, 2] rfl rfl) ?_
  rintro ⟨i, u⟩ hi
  dsimp only at hi ⊢
  by_cases h : i < 8
  · have he : dl 256 (i + 1) 0 = dl 256 i 0 ++ [0] := by rw [dl_succ, Nat.zero_div]; rfl
    refine T_seq ?_
    refine T_sr ?_
    refine S_mv rfl rfl rfl ?_
    refine S_mv rfl rfl rfl ?_
    refine S_val rfl rfl (Y_lss_t rfl rfl (by omega)) ?_
    refine S_nx ?_
    refine T_cond_true rfl ?_
    refine T_skip ?_
    refine X_seq ?_
    refine T_seq ?_
    refine T_block ?_
    refine T_region ?_
    refine S_mv rfl rfl rfl ?_
    refine S_sliceR (und rfl) (siz rfl) (zer rfl) rfl rfl rfl rfl fun _ => ?_
    refine S_append 1 rfl (und rfl) (und rfl) (siz rfl) (byt rfl) (zer rfl) rfl rfl rfl (fun _ hs => hs.rowRd 2 rfl) (by simp; omega) rfl rfl rfl fun _ => ?_
    refine S_as rfl rfl rfl ?_
    refine S_nil ?_
    refine X_blk ?_
    refine X_seq ?_
    refine T_region ?_
    refine S_mv rfl rfl rfl ?_
    refine S_val rfl rfl (Y_addN rfl rfl (nat_cast _) (nat_lit' _) (by omega)) ?_
    refine S_as rfl rfl rfl ?_
    refine S_nil ?_
    refine X_loop ?_
    exact ⟨(i + 1, _), by dsimp only; omega, by dsimp only; omega, (by repeat (first | exact Env.sub_nil _ | (apply Env.sub_cons; rfl))), by dsimp only; rw [he]; exact Emb.idx [0, 1] rfl rfl⟩
  · obtain rfl : i = 8 := by omega
    refine T_seq ?_
    refine T_sr ?_
    refine S_mv rfl rfl rfl ?_
    refine S_mv rfl rfl rfl ?_
    refine S_val rfl rfl (Y_lss_f rfl rfl (by decide)) ?_
    refine S_nx ?_
    refine T_cond_false rfl ?_
    refine T_exit ?_
    refine X_seq_exit ?_
    refine X_loop_exit ?_
    refine X_blk_hit rfl ?_
    refine X_seq ?_
    refine T_sr ?_
    refine S_mv rfl rfl rfl ?_
    refine S_mv rfl rfl rfl ?_
    refine S_call _ rfl rfl (bod rfl) (fun w hs => digits06_any p hp _) rfl rfl ?_
    rintro uq _ ⟨jp, hltp, hjp, rfl⟩
    obtain ⟨nz, hnz⟩ : ∃ nz, nz = 8 + jp := ⟨_, rfl⟩
    have hzl : (dl 256 8 0 ++ dl 256 jp p).length = nz := by rw [List.length_append, dl_length, dl_length, hnz]
    have hz : dl 256 8 0 ++ dl 256 jp p = dl 256 nz Z := by rw [dl_up, hnz, hZ0]
    have hZ : Z < 256 ^ nz := by
      rw [hnz, Nat.pow_add, ← hZ0, Nat.mul_comm (256 ^ 8)]
      exact Nat.mul_lt_mul_of_pos_right hltp (Nat.pow_pos (by omega))
    have hnz2 : nz ≤ 1000 := by omega
    clear hnz hltp hZ0
    refine S_append 1 rfl (und rfl) (und rfl) (siz rfl) (byt rfl) (zer rfl) rfl rfl rfl (fun _ hs => hs.rowRd 2 rfl) (by simp; omega) rfl rfl rfl fun _ => ?_
    refine S_as rfl rfl rfl ?_
    refine S_nx ?_
    refine T_seq ?_
    refine T_sr ?_
    refine S_mv rfl rfl rfl ?_
    refine S_val rfl rfl (Y_lenV rfl (und rfl) rfl (fun _ hs => hs.rowRd 0 rfl) (dl_length _ _ _)) ?_
    refine S_mv rfl rfl rfl ?_
    refine S_val rfl rfl (Y_lenV rfl (und rfl) rfl (fun _ hs => hs.rowRd 1 rfl) (by assumption)) ?_
    refine S_val rfl rfl (Y_max rfl rfl (nat_cast _) (nat_cast _)) ?_
    refine S_val rfl rfl (Y_sub rfl rfl (wi64 (by omega) (by omega))) ?_
    refine S_as rfl rfl rfl ?_
    refine S_nx ?_
    refine T_block ?_
    rename_i uz
    refine T_loop (α := Nat) (fun j => j ≤ max ny nz ∧ Y / 256 ^ j = Z / 256 ^ j)
      (fun j => [(8, uy), (10, uz), (12, .int .i64 ((j : Int) - 1))])
      (fun j => [row .i64 (dl 256 ny Y) uy, row .i64 (dl 256 nz Z) uz])
      (fun j => j) (max ny nz) ⟨Nat.le_refl _, by rw [dig_high (by omega) hY (Nat.le_max_left _ _), dig_high (by omega) hZ (Nat.le_max_right _ _)]⟩ (by repeat (first | exact Env.sub_nil _ | (apply Env.sub_cons; rfl))) [row .i64 (dl 256 jp p) uq] (by rw [← hz]; rfl) ?_
    intro j ⟨hj, he⟩
    by_cases h : j = 0
    · subst h
      have hxy : Y = Z := by simpa using he
      refine T_seq ?_
      refine T_sr ?_
      refine S_mv rfl rfl rfl ?_
      refine S_val rfl rfl (Y_geq_f rfl rfl (by decide)) ?_
      refine S_nx ?_
      refine T_cond_false rfl ?_
      refine T_exit ?_
      refine X_seq_exit ?_
      refine X_loop_exit ?_
      refine X_blk_hit rfl ?_
      refine X_seq ?_
      refine T_sr ?_
      refine S_as rfl rfl rfl ?_
      refine S_nx ?_
      refine T_ret ?_
      ((first | refine X_fin_ret ?_ | refine X_fin ?_); exact ⟨[_], [], .cons (.tmp rfl) .nil, Emb.nil _, by rw [decide_eq_true (by omega)]; rfl, rfl⟩)
    · obtain ⟨i, rfl⟩ : ∃ i, j = i + 1 := ⟨j - 1, by omega⟩
      rw [show (((i + 1 : Nat) : Int) - 1) = (i : Int) by omega]
      rcases Nat.lt_trichotomy (Y / 256 ^ i % 256) (Z / 256 ^ i % 256) with hc | hc | hc
      · have hl := digits_lt he hc
        refine T_seq ?_
        refine T_sr ?_
        refine S_mv rfl rfl rfl ?_
        refine S_val rfl rfl (Y_geq_t rfl rfl (by omega)) ?_
        refine S_nx ?_
        refine T_cond_true rfl ?_
        refine T_skip ?_
        refine X_seq ?_
        refine T_seq ?_
        refine T_block ?_
        refine T_sr ?_
        refine S_mv rfl rfl rfl ?_
        refine S_mv rfl rfl rfl ?_
        refine S_callV rfl rfl (bod rfl) (fun w hs => at06_any Y ny i hY (by omega) uy _ (by first | exact hs.rowRd 0 rfl | exact hs.rowRd 1 rfl | exact hs.rowRd 2 rfl | exact hs.rowRd 3 rfl | exact hs.rowRd 4 rfl | exact hs.rowRd 5 rfl | exact hs.rowRd 6 rfl | exact hs.rowRd 7 rfl | exact hs.rowRd 8 rfl | exact hs.rowRd 9 rfl | exact hs.rowRd 10 rfl | exact hs.rowRd 11 rfl | exact hs.rowRd 12 rfl | exact hs.rowRd 13 rfl | exact Rd.st (by assumption) hs)) rfl rfl ?_
        refine S_as rfl rfl rfl ?_
        refine S_nx ?_
        refine T_sr ?_
        refine S_mv rfl rfl rfl ?_
        refine S_mv rfl rfl rfl ?_
        refine S_callV rfl rfl (bod rfl) (fun w hs => at06_any Z nz i hZ (by omega) uz _ (by first | exact hs.rowRd 0 rfl | exact hs.rowRd 1 rfl | exact hs.rowRd 2 rfl | exact hs.rowRd 3 rfl | exact hs.rowRd 4 rfl | exact hs.rowRd 5 rfl | exact hs.rowRd 6 rfl | exact hs.rowRd 7 rfl | exact hs.rowRd 8 rfl | exact hs.rowRd 9 rfl | exact hs.rowRd 10 rfl | exact hs.rowRd 11 rfl | exact hs.rowRd 12 rfl | exact hs.rowRd 13 rfl | exact Rd.st (by assumption) hs)) rfl rfl ?_
        refine S_as rfl rfl rfl ?_
        refine S_nx ?_
        refine T_sr ?_
        refine S_mv rfl rfl rfl ?_
        refine S_mv rfl rfl rfl ?_
        refine S_val rfl rfl (Y_neq_t rfl rfl (by omega)) ?_
        refine S_nx ?_
        refine T_cond_true rfl ?_
        refine T_sr ?_
        refine S_mv rfl rfl rfl ?_
        refine S_mv rfl rfl rfl ?_
        refine S_val rfl rfl (Y_lss_t rfl rfl (by omega)) ?_
        refine S_as rfl rfl rfl ?_
        refine S_nx ?_
        refine T_ret ?_
        refine X_blk_ret ?_
        refine X_seq_ret ?_
        refine X_loop_ret ?_
        refine X_blk_ret ?_
        refine X_seq_ret ?_
        ((first | refine X_fin_ret ?_ | refine X_fin ?_); exact ⟨[_], [], .cons (.tmp rfl) .nil, Emb.nil _, by rw [decide_eq_true (by omega)]; rfl, rfl⟩)
      · have e := digits_eq he hc
        refine T_seq ?_
        refine T_sr ?_
        refine S_mv rfl rfl rfl ?_
        refine S_val rfl rfl (Y_geq_t rfl rfl (by omega)) ?_
        refine S_nx ?_
        refine T_cond_true rfl ?_
        refine T_skip ?_
        refine X_seq ?_
        refine T_seq ?_
        refine T_block ?_
        refine T_sr ?_
        refine S_mv rfl rfl rfl ?_
        refine S_mv rfl rfl rfl ?_
        refine S_callV rfl rfl (bod rfl) (fun w hs => at06_any Y ny i hY (by omega) uy _ (by first | exact hs.rowRd 0 rfl | exact hs.rowRd 1 rfl | exact hs.rowRd 2 rfl | exact hs.rowRd 3 rfl | exact hs.rowRd 4 rfl | exact hs.rowRd 5 rfl | exact hs.rowRd 6 rfl | exact hs.rowRd 7 rfl | exact hs.rowRd 8 rfl | exact hs.rowRd 9 rfl | exact hs.rowRd 10 rfl | exact hs.rowRd 11 rfl | exact hs.rowRd 12 rfl | exact hs.rowRd 13 rfl | exact Rd.st (by assumption) hs)) rfl rfl ?_
        refine S_as rfl rfl rfl ?_
        refine S_nx ?_
        refine T_sr ?_
        refine S_mv rfl rfl rfl ?_
        refine S_mv rfl rfl rfl ?_
        refine S_callV rfl rfl (bod rfl) (fun w hs => at06_any Z nz i hZ (by omega) uz _ (by first | exact hs.rowRd 0 rfl | exact hs.rowRd 1 rfl | exact hs.rowRd 2 rfl | exact hs.rowRd 3 rfl | exact hs.rowRd 4 rfl | exact hs.rowRd 5 rfl | exact hs.rowRd 6 rfl | exact hs.rowRd 7 rfl | exact hs.rowRd 8 rfl | exact hs.rowRd 9 rfl | exact hs.rowRd 10 rfl | exact hs.rowRd 11 rfl | exact hs.rowRd 12 rfl | exact hs.rowRd 13 rfl | exact Rd.st (by assumption) hs)) rfl rfl ?_
        refine S_as rfl rfl rfl ?_
        refine S_nx ?_
        refine T_sr ?_
        refine S_mv rfl rfl rfl ?_
        refine S_mv rfl rfl rfl ?_
        refine S_val rfl rfl (Y_neq_f rfl rfl (by omega)) ?_
        refine S_nx ?_
        refine T_cond_false rfl ?_
        refine T_skip ?_
        refine X_blk ?_
        refine X_seq ?_
        refine T_region ?_
        refine S_mv rfl rfl rfl ?_
        refine S_val rfl rfl (Y_sub rfl rfl (wi64 (by omega) (by omega))) ?_
        refine S_as rfl rfl rfl ?_
        refine S_nil ?_
        refine X_loop ?_
        exact ⟨i, ⟨by omega, e⟩, by omega, (by repeat (first | exact Env.sub_nil _ | (apply Env.sub_cons; rfl))), [], rfl⟩
      · have hl := digits_lt he.symm hc
        refine T_seq ?_
        refine T_sr ?_
        refine S_mv rfl rfl rfl ?_
        refine S_val rfl rfl (Y_geq_t rfl rfl (by omega)) ?_
        refine S_nx ?_
        refine T_cond_true rfl ?_
        refine T_skip ?_
        refine X_seq ?_
        refine T_seq ?_
        refine T_block ?_
        refine T_sr ?_
        refine S_mv rfl rfl rfl ?_
        refine S_mv rfl rfl rfl ?_
        refine S_callV rfl rfl (bod rfl) (fun w hs => at06_any Y ny i hY (by omega) uy _ (by first | exact hs.rowRd 0 rfl | exact hs.rowRd 1 rfl | exact hs.rowRd 2 rfl | exact hs.rowRd 3 rfl | exact hs.rowRd 4 rfl | exact hs.rowRd 5 rfl | exact hs.rowRd 6 rfl | exact hs.rowRd 7 rfl | exact hs.rowRd 8 rfl | exact hs.rowRd 9 rfl | exact hs.rowRd 10 rfl | exact hs.rowRd 11 rfl | exact hs.rowRd 12 rfl | exact hs.rowRd 13 rfl | exact Rd.st (by assumption) hs)) rfl rfl ?_
        refine S_as rfl rfl rfl ?_
        refine S_nx ?_
        refine T_sr ?_
        refine S_mv rfl rfl rfl ?_
        refine S_mv rfl rfl rfl ?_
        refine S_callV rfl rfl (bod rfl) (fun w hs => at06_any Z nz i hZ (by omega) uz _ (by first | exact hs.rowRd 0 rfl | exact hs.rowRd 1 rfl | exact hs.rowRd 2 rfl | exact hs.rowRd 3 rfl | exact hs.rowRd 4 rfl | exact hs.rowRd 5 rfl | exact hs.rowRd 6 rfl | exact hs.rowRd 7 rfl | exact hs.rowRd 8 rfl | exact hs.rowRd 9 rfl | exact hs.rowRd 10 rfl | exact hs.rowRd 11 rfl | exact hs.rowRd 12 rfl | exact hs.rowRd 13 rfl | exact Rd.st (by assumption) hs)) rfl rfl ?_
        refine S_as rfl rfl rfl ?_
        refine S_nx ?_
        refine T_sr ?_
        refine S_mv rfl rfl rfl ?_
        refine S_mv rfl rfl rfl ?_
        refine S_val rfl rfl (Y_neq_t rfl rfl (by omega)) ?_
        refine S_nx ?_
        refine T_cond_true rfl ?_
        refine T_sr ?_
        refine S_mv rfl rfl rfl ?_
        refine S_mv rfl rfl rfl ?_
        refine S_val rfl rfl (Y_lss_f rfl rfl (by omega)) ?_
        refine S_as rfl rfl rfl ?_
        refine S_nx ?_
        refine T_ret ?_
        refine X_blk_ret ?_
        refine X_seq_ret ?_
        refine X_loop_ret ?_
        refine X_blk_ret ?_
        refine X_seq_ret ?_
        ((first | refine X_fin_ret ?_ | refine X_fin ?_); exact ⟨[_], [], .cons (.tmp rfl) .nil, Emb.nil _, by rw [decide_eq_false (by omega)]; rfl, rfl⟩)
theorem below06_cube (n p : Nat) (hn : n < 18446744073709551616) (hp : p < 18446744073709551616) (w : World) : Fn Tryd.prog 72 #[.int .u64 n, .int .u64 p, .bool true] w fun v N => v = .bool (decide (n * n * n ≤ p * 256 ^ 12)) ∧ N = [] := by
  obtain ⟨Z, hZ0⟩ : ∃ z, p * 256 ^ 12 = z := ⟨_, rfl⟩
  rw [hZ0]
  refine Fn_of (args := [.int .u64 n, .int .u64 p, .bool true]) Tryd.func72 rfl Tryd.ntmps72 Tryd.results72 (by simp) ?_
  refine T_sr ?_
  refine S_as rfl rfl rfl ?_
  refine S_nx ?_
  refine T_sr ?_
  refine S_mv rfl rfl rfl ?_
  refine S_call _ rfl rfl (bod rfl) (fun w hs => digits06_any n hn _) rfl rfl ?_
  rintro ux _ ⟨j, hlt, hj, rfl⟩
  refine S_as rfl rfl rfl ?_
  refine S_nx ?_
  refine T_sr ?_
  refine S_mv rfl rfl rfl ?_
  refine S_mv rfl rfl rfl ?_
  refine S_callR _ rfl rfl (bod rfl) (fun w hs => times06_any n n j j hlt hlt (by omega) (by omega) _ _ _ (by first | exact hs.rowRd 0 rfl | exact hs.rowRd 1 rfl | exact hs.rowRd 2 rfl | exact hs.rowRd 3 rfl | exact hs.rowRd 4 rfl | exact hs.rowRd 5 rfl | exact hs.rowRd 6 rfl | exact hs.rowRd 7 rfl | exact hs.rowRd 8 rfl | exact hs.rowRd 9 rfl | exact hs.rowRd 10 rfl | exact hs.rowRd 11 rfl | exact hs.rowRd 12 rfl | exact hs.rowRd 13 rfl | exact Rd.st (by assumption) hs) (by first | exact hs.rowRd 0 rfl | exact hs.rowRd 1 rfl | exact hs.rowRd 2 rfl | exact hs.rowRd 3 rfl | exact hs.rowRd 4 rfl | exact hs.rowRd 5 rfl | exact hs.rowRd 6 rfl | exact hs.rowRd 7 rfl | exact hs.rowRd 8 rfl | exact hs.rowRd 9 rfl | exact hs.rowRd 10 rfl | exact hs.rowRd 11 rfl | exact hs.rowRd 12 rfl | exact hs.rowRd 13 rfl | exact Rd.st (by assumption) hs)) rfl rfl fun _ => ?_
  refine S_as rfl rfl rfl ?_
  refine S_nx ?_
  refine T_sr ?_
  refine S_as rfl rfl rfl ?_
  refine S_nx ?_
  refine T_seq ?_
  refine T_sr ?_
  refine S_mv rfl rfl rfl ?_
  refine S_nx ?_
  refine T_cond_true rfl ?_
  refine T_sr ?_
  refine S_mv rfl rfl rfl ?_
  refine S_mv rfl rfl rfl ?_
  have hq := sq_lt hlt hlt (rfl : j + j + 1 = _)
  refine S_callR _ rfl rfl (bod rfl) (fun w hs => times06_any (n * n) n (j + j + 1) j hq hlt (by omega) (by omega) _ _ _ (hs.rowRd 1 rfl) (hs.rowRd 0 rfl)) rfl rfl fun _ => ?_
  refine S_as rfl rfl rfl ?_
  refine S_nx ?_
  refine T_region ?_
  refine S_as rfl rfl rfl ?_
  refine S_nx ?_
  refine T_sr ?_
  refine S_sliceR (und rfl) (siz rfl) (zer rfl) rfl rfl rfl rfl fun _ => ?_
  refine S_as rfl rfl rfl ?_
  refine S_nx ?_
  refine T_seq ?_
  refine T_sr ?_
  refine S_as rfl rfl rfl ?_
  refine S_nx ?_
  refine T_block ?_
  rename_i uy z0
  obtain ⟨ny, hny⟩ : ∃ k, j + j + 1 + j + 1 = k := ⟨_, rfl⟩
  have hny2 : ny ≤ 100 := by omega
  have hY : n * n * n < 256 ^ ny := by
    have := sq_lt hlt hq (rfl : j + (j + j + 1) + 1 = _)
    rwa [show j + (j + j + 1) + 1 = ny by omega] at this
  rw [hny]
  clear hny hq
  generalize n * n * n = Y at *
  refine T_loopE (α := Nat × Value) (fun a => a.1 ≤ 12)
    (fun a => [(1, .int .u64 p), (8, uy), (9, .int .i64 (12 : Nat)), (10, a.2), (11, .int .i64 a.1)])
    (fun a => [row .i64 (dl 256 ny Y) uy, row .i64 (dl 256 a.1 0) a.2])
    (fun a => 12 - a.1) (0, z0) (by dsimp only; omega) (by repeat (first | exact Env.sub_nil _ | (apply Env.sub_cons; rfl))) (Emb.idx [2, 3] rfl rfl) ?_
  rintro ⟨i, u⟩ hi
  dsimp only at hi ⊢
  by_cases h : i < 12
  · have he : dl 256 (i + 1) 0 = dl 256 i 0 ++ [0] := by rw [dl_succ, Nat.zero_div]; rfl
    refine T_seq ?_
    refine T_sr ?_
    refine S_mv rfl rfl rfl ?_
    refine S_mv rfl rfl rfl ?_
    refine S_val rfl rfl (Y_lss_t rfl rfl (by omega)) ?_
    refine S_nx ?_
    refine T_cond_true rfl ?_
    refine T_skip ?_
    refine X_seq ?_
    refine T_seq ?_
    refine T_block ?_
    refine T_region ?_
    refine S_mv rfl rfl rfl ?_
    refine S_sliceR (und rfl) (siz rfl) (zer rfl) rfl rfl rfl rfl fun _ => ?_
    refine S_append 1 rfl (und rfl) (und rfl) (siz rfl) (byt rfl) (zer rfl) rfl rfl rfl (fun _ hs => hs.rowRd 2 rfl) (by simp; omega) rfl rfl rfl fun _ => ?_
    refine S_as rfl rfl rfl ?_
    refine S_nil ?_
    refine X_blk ?_
    refine X_seq ?_
    refine T_region ?_
    refine S_mv rfl rfl rfl ?_
    refine S_val rfl rfl (Y_addN rfl rfl (nat_cast _) (nat_lit' _) (by omega)) ?_
    refine S_as rfl rfl rfl ?_
    refine S_nil ?_
    refine X_loop ?_
    exact ⟨(i + 1, _), by dsimp only; omega, by dsimp only; omega, (by repeat (first | exact Env.sub_nil _ | (apply Env.sub_cons; rfl))), by dsimp only; rw [he]; exact Emb.idx [0, 1] rfl rfl⟩
  · obtain rfl : i = 12 := by omega
    refine T_seq ?_
    refine T_sr ?_
    refine S_mv rfl rfl rfl ?_
    refine S_mv rfl rfl rfl ?_
    refine S_val rfl rfl (Y_lss_f rfl rfl (by decide)) ?_
    refine S_nx ?_
    refine T_cond_false rfl ?_
    refine T_exit ?_
    refine X_seq_exit ?_
    refine X_loop_exit ?_
    refine X_blk_hit rfl ?_
    refine X_seq ?_
    refine T_sr ?_
    refine S_mv rfl rfl rfl ?_
    refine S_mv rfl rfl rfl ?_
    refine S_call _ rfl rfl (bod rfl) (fun w hs => digits06_any p hp _) rfl rfl ?_
    rintro uq _ ⟨jp, hltp, hjp, rfl⟩
    obtain ⟨nz, hnz⟩ : ∃ nz, nz = 12 + jp := ⟨_, rfl⟩
    have hzl : (dl 256 12 0 ++ dl 256 jp p).length = nz := by rw [List.length_append, dl_length, dl_length, hnz]
    have hz : dl 256 12 0 ++ dl 256 jp p = dl 256 nz Z := by rw [dl_up, hnz, hZ0]
    have hZ : Z < 256 ^ nz := by
      rw [hnz, Nat.pow_add, ← hZ0, Nat.mul_comm (256 ^ 12)]
      exact Nat.mul_lt_mul_of_pos_right hltp (Nat.pow_pos (by omega))
    have hnz2 : nz ≤ 1000 := by omega
    clear hnz hltp hZ0
    refine S_append 1 rfl (und rfl) (und rfl) (siz rfl) (byt rfl) (zer rfl) rfl rfl rfl (fun _ hs => hs.rowRd 2 rfl) (by simp; omega) rfl rfl rfl fun _ => ?_
    refine S_as rfl rfl rfl ?_
    refine S_nx ?_
    refine T_seq ?_
    refine T_sr ?_
    refine S_mv rfl rfl rfl ?_
    refine S_val rfl rfl (Y_lenV rfl (und rfl) rfl (fun _ hs => hs.rowRd 0 rfl) (dl_length _ _ _)) ?_
    refine S_mv rfl rfl rfl ?_
    refine S_val rfl rfl (Y_lenV rfl (und rfl) rfl (fun _ hs => hs.rowRd 1 rfl) (by assumption)) ?_
    refine S_val rfl rfl (Y_max rfl rfl (nat_cast _) (nat_cast _)) ?_
    refine S_val rfl rfl (Y_sub rfl rfl (wi64 (by omega) (by omega))) ?_
    refine S_as rfl rfl rfl ?_
    refine S_nx ?_
    refine T_block ?_
    rename_i uz
    refine T_loop (α := Nat) (fun j => j ≤ max ny nz ∧ Y / 256 ^ j = Z / 256 ^ j)
      (fun j => [(8, uy), (10, uz), (12, .int .i64 ((j : Int) - 1))])
      (fun j => [row .i64 (dl 256 ny Y) uy, row .i64 (dl 256 nz Z) uz])
      (fun j => j) (max ny nz) ⟨Nat.le_refl _, by rw [dig_high (by omega) hY (Nat.le_max_left _ _), dig_high (by omega) hZ (Nat.le_max_right _ _)]⟩ (by repeat (first | exact Env.sub_nil _ | (apply Env.sub_cons; rfl))) [row .i64 (dl 256 jp p) uq] (by rw [← hz]; rfl) ?_
    intro j ⟨hj, he⟩
    by_cases h : j = 0
    · subst h
      have hxy : Y = Z := by simpa using he
      refine T_seq ?_
      refine T_sr ?_
      refine S_mv rfl rfl rfl ?_
      refine S_val rfl rfl (Y_geq_f rfl rfl (by decide)) ?_
      refine S_nx ?_
      refine T_cond_false rfl ?_
      refine T_exit ?_
      refine X_seq_exit ?_
      refine X_loop_exit ?_
      refine X_blk_hit rfl ?_
      refine X_seq ?_
      refine T_sr ?_
      refine S_as rfl rfl rfl ?_
      refine S_nx ?_
      refine T_ret ?_
      ((first | refine X_fin_ret ?_ | refine X_fin ?_); exact ⟨[_], [], .cons (.tmp rfl) .nil, Emb.nil _, by rw [decide_eq_true (by omega)]; rfl, rfl⟩)
    · obtain ⟨i, rfl⟩ : ∃ i, j = i + 1 := ⟨j - 1, by omega⟩
      rw [show (((i + 1 : Nat) : Int) - 1) = (i : Int) by omega]
      rcases Nat.lt_trichotomy (Y / 256 ^ i % 256) (Z / 256 ^ i % 256) with hc | hc | hc
      · have hl := digits_lt he hc
        refine T_seq ?_
        refine T_sr ?_
        refine S_mv rfl rfl rfl ?_
        refine S_val rfl rfl (Y_geq_t rfl rfl (by omega)) ?_
        refine S_nx ?_
        refine T_cond_true rfl ?_
        refine T_skip ?_
        refine X_seq ?_
        refine T_seq ?_
        refine T_block ?_
        refine T_sr ?_
        refine S_mv rfl rfl rfl ?_
        refine S_mv rfl rfl rfl ?_
        refine S_callV rfl rfl (bod rfl) (fun w hs => at06_any Y ny i hY (by omega) uy _ (by first | exact hs.rowRd 0 rfl | exact hs.rowRd 1 rfl | exact hs.rowRd 2 rfl | exact hs.rowRd 3 rfl | exact hs.rowRd 4 rfl | exact hs.rowRd 5 rfl | exact hs.rowRd 6 rfl | exact hs.rowRd 7 rfl | exact hs.rowRd 8 rfl | exact hs.rowRd 9 rfl | exact hs.rowRd 10 rfl | exact hs.rowRd 11 rfl | exact hs.rowRd 12 rfl | exact hs.rowRd 13 rfl | exact Rd.st (by assumption) hs)) rfl rfl ?_
        refine S_as rfl rfl rfl ?_
        refine S_nx ?_
        refine T_sr ?_
        refine S_mv rfl rfl rfl ?_
        refine S_mv rfl rfl rfl ?_
        refine S_callV rfl rfl (bod rfl) (fun w hs => at06_any Z nz i hZ (by omega) uz _ (by first | exact hs.rowRd 0 rfl | exact hs.rowRd 1 rfl | exact hs.rowRd 2 rfl | exact hs.rowRd 3 rfl | exact hs.rowRd 4 rfl | exact hs.rowRd 5 rfl | exact hs.rowRd 6 rfl | exact hs.rowRd 7 rfl | exact hs.rowRd 8 rfl | exact hs.rowRd 9 rfl | exact hs.rowRd 10 rfl | exact hs.rowRd 11 rfl | exact hs.rowRd 12 rfl | exact hs.rowRd 13 rfl | exact Rd.st (by assumption) hs)) rfl rfl ?_
        refine S_as rfl rfl rfl ?_
        refine S_nx ?_
        refine T_sr ?_
        refine S_mv rfl rfl rfl ?_
        refine S_mv rfl rfl rfl ?_
        refine S_val rfl rfl (Y_neq_t rfl rfl (by omega)) ?_
        refine S_nx ?_
        refine T_cond_true rfl ?_
        refine T_sr ?_
        refine S_mv rfl rfl rfl ?_
        refine S_mv rfl rfl rfl ?_
        refine S_val rfl rfl (Y_lss_t rfl rfl (by omega)) ?_
        refine S_as rfl rfl rfl ?_
        refine S_nx ?_
        refine T_ret ?_
        refine X_blk_ret ?_
        refine X_seq_ret ?_
        refine X_loop_ret ?_
        refine X_blk_ret ?_
        refine X_seq_ret ?_
        ((first | refine X_fin_ret ?_ | refine X_fin ?_); exact ⟨[_], [], .cons (.tmp rfl) .nil, Emb.nil _, by rw [decide_eq_true (by omega)]; rfl, rfl⟩)
      · have e := digits_eq he hc
        refine T_seq ?_
        refine T_sr ?_
        refine S_mv rfl rfl rfl ?_
        refine S_val rfl rfl (Y_geq_t rfl rfl (by omega)) ?_
        refine S_nx ?_
        refine T_cond_true rfl ?_
        refine T_skip ?_
        refine X_seq ?_
        refine T_seq ?_
        refine T_block ?_
        refine T_sr ?_
        refine S_mv rfl rfl rfl ?_
        refine S_mv rfl rfl rfl ?_
        refine S_callV rfl rfl (bod rfl) (fun w hs => at06_any Y ny i hY (by omega) uy _ (by first | exact hs.rowRd 0 rfl | exact hs.rowRd 1 rfl | exact hs.rowRd 2 rfl | exact hs.rowRd 3 rfl | exact hs.rowRd 4 rfl | exact hs.rowRd 5 rfl | exact hs.rowRd 6 rfl | exact hs.rowRd 7 rfl | exact hs.rowRd 8 rfl | exact hs.rowRd 9 rfl | exact hs.rowRd 10 rfl | exact hs.rowRd 11 rfl | exact hs.rowRd 12 rfl | exact hs.rowRd 13 rfl | exact Rd.st (by assumption) hs)) rfl rfl ?_
        refine S_as rfl rfl rfl ?_
        refine S_nx ?_
        refine T_sr ?_
        refine S_mv rfl rfl rfl ?_
        refine S_mv rfl rfl rfl ?_
        refine S_callV rfl rfl (bod rfl) (fun w hs => at06_any Z nz i hZ (by omega) uz _ (by first | exact hs.rowRd 0 rfl | exact hs.rowRd 1 rfl | exact hs.rowRd 2 rfl | exact hs.rowRd 3 rfl | exact hs.rowRd 4 rfl | exact hs.rowRd 5 rfl | exact hs.rowRd 6 rfl | exact hs.rowRd 7 rfl | exact hs.rowRd 8 rfl | exact hs.rowRd 9 rfl | exact hs.rowRd 10 rfl | exact hs.rowRd 11 rfl | exact hs.rowRd 12 rfl | exact hs.rowRd 13 rfl | exact Rd.st (by assumption) hs)) rfl rfl ?_
        refine S_as rfl rfl rfl ?_
        refine S_nx ?_
        refine T_sr ?_
        refine S_mv rfl rfl rfl ?_
        refine S_mv rfl rfl rfl ?_
        refine S_val rfl rfl (Y_neq_f rfl rfl (by omega)) ?_
        refine S_nx ?_
        refine T_cond_false rfl ?_
        refine T_skip ?_
        refine X_blk ?_
        refine X_seq ?_
        refine T_region ?_
        refine S_mv rfl rfl rfl ?_
        refine S_val rfl rfl (Y_sub rfl rfl (wi64 (by omega) (by omega))) ?_
        refine S_as rfl rfl rfl ?_
        refine S_nil ?_
        refine X_loop ?_
        exact ⟨i, ⟨by omega, e⟩, by omega, (by repeat (first | exact Env.sub_nil _ | (apply Env.sub_cons; rfl))), [], rfl⟩
      · have hl := digits_lt he.symm hc
        refine T_seq ?_
        refine T_sr ?_
        refine S_mv rfl rfl rfl ?_
        refine S_val rfl rfl (Y_geq_t rfl rfl (by omega)) ?_
        refine S_nx ?_
        refine T_cond_true rfl ?_
        refine T_skip ?_
        refine X_seq ?_
        refine T_seq ?_
        refine T_block ?_
        refine T_sr ?_
        refine S_mv rfl rfl rfl ?_
        refine S_mv rfl rfl rfl ?_
        refine S_callV rfl rfl (bod rfl) (fun w hs => at06_any Y ny i hY (by omega) uy _ (by first | exact hs.rowRd 0 rfl | exact hs.rowRd 1 rfl | exact hs.rowRd 2 rfl | exact hs.rowRd 3 rfl | exact hs.rowRd 4 rfl | exact hs.rowRd 5 rfl | exact hs.rowRd 6 rfl | exact hs.rowRd 7 rfl | exact hs.rowRd 8 rfl | exact hs.rowRd 9 rfl | exact hs.rowRd 10 rfl | exact hs.rowRd 11 rfl | exact hs.rowRd 12 rfl | exact hs.rowRd 13 rfl | exact Rd.st (by assumption) hs)) rfl rfl ?_
        refine S_as rfl rfl rfl ?_
        refine S_nx ?_
        refine T_sr ?_
        refine S_mv rfl rfl rfl ?_
        refine S_mv rfl rfl rfl ?_
        refine S_callV rfl rfl (bod rfl) (fun w hs => at06_any Z nz i hZ (by omega) uz _ (by first | exact hs.rowRd 0 rfl | exact hs.rowRd 1 rfl | exact hs.rowRd 2 rfl | exact hs.rowRd 3 rfl | exact hs.rowRd 4 rfl | exact hs.rowRd 5 rfl | exact hs.rowRd 6 rfl | exact hs.rowRd 7 rfl | exact hs.rowRd 8 rfl | exact hs.rowRd 9 rfl | exact hs.rowRd 10 rfl | exact hs.rowRd 11 rfl | exact hs.rowRd 12 rfl | exact hs.rowRd 13 rfl | exact Rd.st (by assumption) hs)) rfl rfl ?_
        refine S_as rfl rfl rfl ?_
        refine S_nx ?_
        refine T_sr ?_
        refine S_mv rfl rfl rfl ?_
        refine S_mv rfl rfl rfl ?_
        refine S_val rfl rfl (Y_neq_t rfl rfl (by omega)) ?_
        refine S_nx ?_
        refine T_cond_true rfl ?_
        refine T_sr ?_
        refine S_mv rfl rfl rfl ?_
        refine S_mv rfl rfl rfl ?_
        refine S_val rfl rfl (Y_lss_f rfl rfl (by omega)) ?_
        refine S_as rfl rfl rfl ?_
        refine S_nx ?_
        refine T_ret ?_
        refine X_blk_ret ?_
        refine X_seq_ret ?_
        refine X_loop_ret ?_
        refine X_blk_ret ?_
        refine X_seq_ret ?_
        ((first | refine X_fin_ret ?_ | refine X_fin ?_); exact ⟨[_], [], .cons (.tmp rfl) .nil, Emb.nil _, by rw [decide_eq_false (by omega)]; rfl, rfl⟩)
end Go.Proofs.YtjolmphkmfbpbaaDoor
/- The reference of layer 6: root. -/
namespace Go.Proofs.YtjolmphkmfbpbaaDoor
open Go.RowKit
set_option maxRecDepth 20000
set_option maxHeartbeats 40000000
def belowN (n p : Nat) : Bool → Bool
  | true => decide (n * n * n ≤ p * 256 ^ 12)
  | false => decide (n * n ≤ p * 256 ^ 8)
def rbit (k : Nat) : Nat := 68719476736 / 2 ^ k
/-- The root after so many bits. -/
def rt (p : Nat) (cube : Bool) : Nat → Nat
  | 0 => 0
  | k + 1 => if belowN (rt p cube k + rbit k) p cube then rt p cube k + rbit k else rt p cube k
theorem rt_zero (p : Nat) (cube : Bool) : rt p cube 0 = 0 := by rw [rt]
theorem rt_succ (p : Nat) (cube : Bool) (k : Nat) : rt p cube (k + 1) = if belowN (rt p cube k + rbit k) p cube then rt p cube k + rbit k else rt p cube k := by rw [rt]
theorem rbit_le (k : Nat) : rbit k ≤ 68719476736 := Nat.div_le_self _ _
theorem rbit_next (k : Nat) : rbit (k + 1) = rbit k / 2 := by unfold rbit; rw [Nat.pow_succ, Nat.div_div_eq_div_mul]
theorem rbit_pos {k : Nat} (h : k < 37) : 0 < rbit k := by
  unfold rbit
  refine Nat.div_pos ?_ (Nat.pow_pos (by omega))
  exact Nat.le_trans (Nat.pow_le_pow_right (by omega) (show k ≤ 36 by omega)) (Nat.le_of_eq (by decide +kernel))
theorem rt_le (p : Nat) (cube : Bool) : ∀ k, rt p cube k ≤ k * 68719476736
  | 0 => by rw [rt_zero]; exact Nat.zero_le _
  | k + 1 => by
    have h1 := rt_le p cube k
    have h2 := rbit_le k
    rw [rt_succ, Nat.succ_mul]
    generalize k * 68719476736 = m at *
    split <;> omega
theorem below06_any (n p : Nat) (cube : Bool) (hn : n < 18446744073709551616) (hp : p < 18446744073709551616) (w : World) : Fn Tryd.prog 72 #[.int .u64 n, .int .u64 p, .bool cube] w fun v N => v = .bool (belowN n p cube) ∧ N = [] := by
  cases cube
  · exact below06_sq n p hn hp w
  · exact below06_cube n p hn hp w
theorem root06_any (p : Nat) (cube : Bool) (hp : p < 18446744073709551616) (w : World) : Fn Tryd.prog 51 #[.int .u64 p, .bool cube] w fun v N => v = .int .u32 ((rt p cube 37 % 4294967296 : Nat) : Int) ∧ N = [] := by
  refine Fn_of (args := [.int .u64 p, .bool cube]) Tryd.func51 rfl Tryd.ntmps51 Tryd.results51 (by simp) ?_
  refine T_sr ?_
  refine S_as rfl rfl rfl ?_
  refine S_nx ?_
  refine T_sr ?_
  refine S_as rfl rfl rfl ?_
  refine S_nx ?_
  refine T_seq ?_
  refine T_sr ?_
  refine S_as rfl rfl rfl ?_
  refine S_nx ?_
  refine T_block ?_
  refine T_loop (α := Nat) (fun k => k ≤ 37)
    (fun k => [(0, .int .u64 p), (1, .bool cube), (5, .int .u64 (rt p cube k : Nat)), (6, .int .u64 (rbit k : Nat))])
    (fun k => [])
    (fun k => 37 - k) 0 (by omega) (by rw [rt_zero]; exact (by repeat (first | exact Env.sub_nil _ | (apply Env.sub_cons; rfl)))) [] rfl ?_
  intro k hk
  have hle := rt_le p cube k
  have hbl := rbit_le k
  by_cases h : k < 37
  · have hb := rbit_pos h
    have hnx := rbit_next k
    have hrs := rt_succ p cube k
    have hsum : rt p cube k + rbit k < 18446744073709551616 := by omega
    have bw := fun w => below06_any (rt p cube k + rbit k) p cube hsum hp w
    cases hB : belowN (rt p cube k + rbit k) p cube
    · rw [hB] at bw hrs
      rw [if_neg (by decide)] at hrs
      generalize hr1 : rt p cube (k + 1) = r1 at *
      generalize rt p cube k = r0 at *
      generalize hb1 : rbit (k + 1) = b1 at *
      generalize rbit k = b0 at *
      subst hrs hnx
      refine T_seq ?_
      refine T_sr ?_
      refine S_mv rfl rfl rfl ?_
      refine S_val rfl rfl (Y_gtr_t rfl rfl (by omega)) ?_
      refine S_nx ?_
      refine T_cond_true rfl ?_
      refine T_skip ?_
      refine X_seq ?_
      refine T_seq ?_
      refine T_block ?_
      refine T_sr ?_
      refine S_mv rfl rfl rfl ?_
      refine S_mv rfl rfl rfl ?_
      refine S_val rfl rfl (Y_addU rfl rfl (nat_cast _) (nat_cast _) rfl (by simp only [IntKind.bits]; assumption)) ?_
      refine S_mv rfl rfl rfl ?_
      refine S_mv rfl rfl rfl ?_
      refine S_callV rfl rfl (bod rfl) (fun w hs => bw _) rfl rfl ?_
      refine S_nx ?_
      refine T_cond_false rfl ?_
      refine T_skip ?_
      refine X_blk ?_
      refine X_seq ?_
      refine T_region ?_
      refine S_mv rfl rfl rfl ?_
      refine S_val rfl rfl (Y_quoN rfl rfl (nat_cast _) (nat_lit' _) (Nat.succ_ne_zero _) (by first | with_reducible exact xi64 (by omega) | with_reducible exact x64 (by omega) | with_reducible exact x8 (by omega) | with_reducible exact x32 (by omega))) ?_
      refine S_as rfl rfl rfl ?_
      refine S_nil ?_
      refine X_loop ?_
      exact ⟨k + 1, by omega, by omega, by (try dsimp only); rw [hr1, hb1]; exact (by repeat (first | exact Env.sub_nil _ | (apply Env.sub_cons; rfl))), [], rfl⟩
    · rw [hB] at bw hrs
      rw [if_pos rfl] at hrs
      generalize hr1 : rt p cube (k + 1) = r1 at *
      generalize rt p cube k = r0 at *
      generalize hb1 : rbit (k + 1) = b1 at *
      generalize rbit k = b0 at *
      subst hrs hnx
      refine T_seq ?_
      refine T_sr ?_
      refine S_mv rfl rfl rfl ?_
      refine S_val rfl rfl (Y_gtr_t rfl rfl (by omega)) ?_
      refine S_nx ?_
      refine T_cond_true rfl ?_
      refine T_skip ?_
      refine X_seq ?_
      refine T_seq ?_
      refine T_block ?_
      refine T_sr ?_
      refine S_mv rfl rfl rfl ?_
      refine S_mv rfl rfl rfl ?_
      refine S_val rfl rfl (Y_addU rfl rfl (nat_cast _) (nat_cast _) rfl (by simp only [IntKind.bits]; assumption)) ?_
      refine S_mv rfl rfl rfl ?_
      refine S_mv rfl rfl rfl ?_
      refine S_callV rfl rfl (bod rfl) (fun w hs => bw _) rfl rfl ?_
      refine S_nx ?_
      refine T_cond_true rfl ?_
      refine T_region ?_
      refine S_mv rfl rfl rfl ?_
      refine S_mv rfl rfl rfl ?_
      refine S_val rfl rfl (Y_addU rfl rfl (nat_cast _) (nat_cast _) rfl (by simp only [IntKind.bits]; assumption)) ?_
      refine S_as rfl rfl rfl ?_
      refine S_nil ?_
      refine X_blk ?_
      refine X_seq ?_
      refine T_region ?_
      refine S_mv rfl rfl rfl ?_
      refine S_val rfl rfl (Y_quoN rfl rfl (nat_cast _) (nat_lit' _) (Nat.succ_ne_zero _) (by first | with_reducible exact xi64 (by omega) | with_reducible exact x64 (by omega) | with_reducible exact x8 (by omega) | with_reducible exact x32 (by omega))) ?_
      refine S_as rfl rfl rfl ?_
      refine S_nil ?_
      refine X_loop ?_
      exact ⟨k + 1, by omega, by omega, by (try dsimp only); rw [hr1, hb1]; exact (by repeat (first | exact Env.sub_nil _ | (apply Env.sub_cons; rfl))), [], rfl⟩
  · obtain rfl : k = 37 := by omega
    have hb0 : rbit 37 = 0 := by decide
    rw [hb0]
    have hm : rt p cube 37 % 4294967296 < 4294967296 := Nat.mod_lt _ (by omega)
    generalize rt p cube 37 = r0 at *
    refine T_seq ?_
    refine T_sr ?_
    refine S_mv rfl rfl rfl ?_
    refine S_val rfl rfl (Y_gtr_f rfl rfl (by decide)) ?_
    refine S_nx ?_
    refine T_cond_false rfl ?_
    refine T_exit ?_
    refine X_seq_exit ?_
    refine X_loop_exit ?_
    refine X_blk_hit rfl ?_
    refine X_seq ?_
    refine T_sr ?_
    refine S_mv rfl rfl rfl ?_
    refine S_val rfl rfl (Y_remN rfl rfl (nat_cast _) (nat_lit' _) (Nat.succ_ne_zero _)) ?_
    refine S_val rfl rfl (Y_conv (und rfl) (und rfl) rfl (wu32 (by omega) (by omega))) ?_
    refine S_as rfl rfl rfl ?_
    refine S_nx ?_
    refine T_ret ?_
    ((first | refine X_fin_ret ?_ | refine X_fin ?_); exact ⟨[_], [], .cons (.tmp rfl) .nil, Emb.nil _, rfl, rfl⟩)
end Go.Proofs.YtjolmphkmfbpbaaDoor
/- 32-bit numbers as bit vectors; a variable of the package. -/
namespace Go.Proofs.YtjolmphkmfbpbaaDoor
open Go.RowKit
set_option maxRecDepth 20000
abbrev U32 := BitVec 32
abbrev U8 := BitVec 8
def bvl (l : List U32) : List Int := l.map fun x => ((x.toNat : Nat) : Int)
def byl (l : List U8) : List Int := l.map fun x => ((x.toNat : Nat) : Int)
@[simp] theorem bvl_length (l : List U32) : (bvl l).length = l.length := List.length_map _
@[simp] theorem byl_length (l : List U8) : (byl l).length = l.length := List.length_map _
theorem bvl_get {l : List U32} {i : Nat} {a : U32} (h : l[i]? = some a) : (bvl l)[i]? = some ((a.toNat : Nat) : Int) := by unfold bvl; rw [List.getElem?_map, h]; rfl
theorem byl_get {l : List U8} {i : Nat} {a : U8} (h : l[i]? = some a) : (byl l)[i]? = some ((a.toNat : Nat) : Int) := by unfold byl; rw [List.getElem?_map, h]; rfl
theorem bvl_set (l : List U32) (i : Nat) (a : U32) : (bvl l).set i ((a.toNat : Nat) : Int) = bvl (l.set i a) := by unfold bvl; rw [List.map_set]
theorem byl_set (l : List U8) (i : Nat) (a : U8) : (byl l).set i ((a.toNat : Nat) : Int) = byl (l.set i a) := by unfold byl; rw [List.map_set]
theorem byl_take (l : List U8) (i : Nat) : (byl l).take i = byl (l.take i) := (List.map_take ..).symm
theorem byl_drop (l : List U8) (i : Nat) : (byl l).drop i = byl (l.drop i) := (List.map_drop ..).symm
theorem byl_append (l m : List U8) : byl l ++ byl m = byl (l ++ m) := (List.map_append ..).symm
theorem some_get {α : Type} {l : List α} {i n : Nat} (hl : l.length = n) (h : i < n) : ∃ a, l[i]? = some a := ⟨l[i]'(by omega), List.getElem?_eq_getElem (by omega)⟩
section
variable {C : Ctx} {E : Env} {L : Hp} {dst : Option Tmp} {ty : TypeId} {pos : String} {af : Array Edge} {g : Option (Nat × Bool)}
variable {x y : Operand} {t u e : TypeId} {a b : U32} {k : IntKind} {q : Int} {n m r : Nat} {p : Int}
theorem Y_bxor (hx : ev E x = some (.int .u32 ((a.toNat : Nat) : Int))) (hy : ev E y = some (.int .u32 ((b.toNat : Nat) : Int))) : Yv C E L ⟨dst, .binOp .xor t x y u, ty, pos, af, g⟩ (.int .u32 (((a ^^^ b).toNat : Nat) : Int)) := by
  rw [BitVec.toNat_xor]
  exact Y_xor hx hy (nat_cast _) (nat_cast _) rfl a.isLt b.isLt
theorem Y_band (hx : ev E x = some (.int .u32 ((a.toNat : Nat) : Int))) (hy : ev E y = some (.int .u32 ((b.toNat : Nat) : Int))) : Yv C E L ⟨dst, .binOp .and t x y u, ty, pos, af, g⟩ (.int .u32 (((a &&& b).toNat : Nat) : Int)) := by
  rw [BitVec.toNat_and]
  exact Y_and hx hy (nat_cast _) (nat_cast _) rfl a.isLt b.isLt
theorem Y_bor (hx : ev E x = some (.int .u32 ((a.toNat : Nat) : Int))) (hy : ev E y = some (.int .u32 ((b.toNat : Nat) : Int))) : Yv C E L ⟨dst, .binOp .or t x y u, ty, pos, af, g⟩ (.int .u32 (((a ||| b).toNat : Nat) : Int)) := by
  rw [BitVec.toNat_or]
  exact Y_or hx hy (nat_cast _) (nat_cast _) rfl a.isLt b.isLt
theorem Y_badd (hx : ev E x = some (.int .u32 ((a.toNat : Nat) : Int))) (hy : ev E y = some (.int .u32 ((b.toNat : Nat) : Int))) : Yv C E L ⟨dst, .binOp .add t x y u, ty, pos, af, g⟩ (.int .u32 (((a + b).toNat : Nat) : Int)) := by
  rw [BitVec.toNat_add]
  refine Y_add hx hy ?_
  rw [← Int.natCast_add]
  exact wu32n
theorem Y_bcpl (hx : ev E x = some (.int .u32 ((a.toNat : Nat) : Int))) : Yv C E L ⟨dst, .unOp .xor t x, ty, pos, af, g⟩ (.int .u32 (((~~~ a).toNat : Nat) : Int)) := by
  rw [BitVec.toNat_not]
  exact Y_cpl hx (nat_cast _) rfl a.isLt
theorem Y_bshl (hx : ev E x = some (.int .u32 ((a.toNat : Nat) : Int))) (hy : ev E y = some (.int k q)) (hq : IsNat q n) : Yv C E L ⟨dst, .binOp .shl t x y u, ty, pos, af, g⟩ (.int .u32 (((a <<< n).toNat : Nat) : Int)) := by
  rw [BitVec.toNat_shiftLeft, Nat.shiftLeft_eq]
  exact Y_shlN hx hy (nat_cast _) hq rfl rfl
theorem Y_bshr (hx : ev E x = some (.int .u32 ((a.toNat : Nat) : Int))) (hy : ev E y = some (.int k q)) (hq : IsNat q n) : Yv C E L ⟨dst, .binOp .shr t x y u, ty, pos, af, g⟩ (.int .u32 (((a >>> n).toNat : Nat) : Int)) := by
  rw [BitVec.toNat_ushiftRight, Nat.shiftRight_eq_div_pow]
  exact Y_shrN hx hy (nat_cast _) hq a.isLt
/-- A byte as 32 bits. -/
theorem Y_bconv {c : U8} {d : TypeDesc} (hu : C.P.underlying u = some (.int .u32)) (ht : C.P.underlying t = some d) (hx : ev E x = some (.int .u8 ((c.toNat : Nat) : Int))) : Yv C E L ⟨dst, .convert t u x, ty, pos, af, g⟩ (.int .u32 (((c.setWidth 32).toNat : Nat) : Int)) := by
  rw [BitVec.toNat_setWidth]
  exact Y_conv hu ht hx wu32n
/-- 32 bits as a byte. -/
theorem Y_bcut {d : TypeDesc} (hu : C.P.underlying u = some (.int .u8)) (ht : C.P.underlying t = some d) (hx : ev E x = some (.int .u32 ((a.toNat : Nat) : Int))) : Yv C E L ⟨dst, .convert t u x, ty, pos, af, g⟩ (.int .u8 (((a.setWidth 8).toNat : Nat) : Int)) := by
  rw [BitVec.toNat_setWidth]
  exact Y_conv hu ht hx wu8n
/-- .. whose value is known. -/
theorem Y_andV (hx : ev E x = some (.int k p)) (hy : ev E y = some (.int k q)) (hp : IsNat p m) (hq : IsNat q n) (hk : k.signed = false) (hm : m < 2 ^ k.bits) (hn : n < 2 ^ k.bits) (hr : m &&& n = r) :
    Yv C E L ⟨dst, .binOp .and t x y u, ty, pos, af, g⟩ (.int k ((r : Nat) : Int)) := hr ▸ Y_and hx hy hp hq hk hm hn
/-- A cell of a package's variable, that reads as a slice would. -/
theorem Y_loadG {d : TypeDesc} {v : Nat} {off c : Nat} {l : List Int} (ht : C.P.underlying t = some d) (hd : isAggB d = false) (hx : ev E x = some (.pointer (some ⟨v, off, none⟩)))
    (hr : ∀ w, St C L w → Rd w (.slice (some ⟨v, 0, none⟩) n c) k l) (hv : l[off]? = some p) : Yv C E L ⟨dst, .load t x, ty, pos, af, g⟩ (.int k p) :=
  Y_load ht hd hx fun w hs => by
    have := (hr w hs).cell hv
    rwa [Nat.zero_add] at this
/-- arr[lo:hi], of an array of elements of one cell that begins its block. -/
theorem Y_sliceArrLH {v lo hi len : Nat} {q' : Int} {z : Operand} {k' : IntKind} {es : TypeId} (ht : C.P.underlying t = some (.array len es)) (he : szOf C.P es = some 1) (hx : ev E x = some (.pointer (some ⟨v, 0, none⟩))) (hy : ev E y = some (.int k q)) (hz : ev E z = some (.int k' q')) (hq : IsNat q lo) (hq' : IsNat q' hi) (h1 : lo ≤ hi) (h2 : hi ≤ len) (h3 : lo < len) :
    Yv C E L ⟨dst, .slice t x (some y) (some z) none, ty, pos, af, g⟩ (.slice (some ⟨v, lo, none⟩) (hi - lo) (len - lo)) := by
  refine ⟨fun a w h _ => ?_⟩
  have e2 : (Instr.sliceBound (.int k' q') len .sliceAlen).run C.P w = .ok hi w := run_bound hq' h2
  have e1 : (Instr.sliceBound (.int k q) hi .sliceB).run C.P w = .ok lo w := run_bound hq h1
  have h4 : ¬ len = lo := by omega
  simp [execOp, h.eval hx, h.eval hy, h.eval hz, Instr.sliceAt, Instr.sliceBounds, run_underlying ht, run_sizeOf he, e1, e2, Instr.sureAddr, addr_add, h4]
end
end Go.Proofs.YtjolmphkmfbpbaaDoor
/- The laid variable: sha's constants. -/
namespace Go.Proofs.YtjolmphkmfbpbaaDoor
open Go.ChangeShapes Go.WideShapes Go.ChangeAt Go.RowKit
set_option maxRecDepth 20000
def KZ : List Int := [1116352408, 1899447441, 3049323471, 3921009573, 961987163, 1508970993, 2453635748, 2870763221, 3624381080, 310598401, 607225278, 1426881987, 1925078388, 2162078206, 2614888103, 3248222580, 3835390401, 4022224774, 264347078, 604807628, 770255983, 1249150122, 1555081692, 1996064986, 2554220882, 2821834349, 2952996808, 3210313671, 3336571891, 3584528711, 113926993, 338241895, 666307205, 773529912, 1294757372, 1396182291, 1695183700, 1986661051, 2177026350, 2456956037, 2730485921, 2820302411, 3259730800, 3345764771, 3516065817, 3600352804, 4094571909, 275423344, 430227734, 506948616, 659060556, 883997877, 958139571, 1322822218, 1537002063, 1747873779, 1955562222, 2024104815, 2227730452, 2361852424, 2428436474, 2756734187, 3204031479, 3329325298]
def KL : List U32 := [1116352408, 1899447441, 3049323471, 3921009573, 961987163, 1508970993, 2453635748, 2870763221, 3624381080, 310598401, 607225278, 1426881987, 1925078388, 2162078206, 2614888103, 3248222580, 3835390401, 4022224774, 264347078, 604807628, 770255983, 1249150122, 1555081692, 1996064986, 2554220882, 2821834349, 2952996808, 3210313671, 3336571891, 3584528711, 113926993, 338241895, 666307205, 773529912, 1294757372, 1396182291, 1695183700, 1986661051, 2177026350, 2456956037, 2730485921, 2820302411, 3259730800, 3345764771, 3516065817, 3600352804, 4094571909, 275423344, 430227734, 506948616, 659060556, 883997877, 958139571, 1322822218, 1537002063, 1747873779, 1955562222, 2024104815, 2227730452, 2361852424, 2428436474, 2756734187, 3204031479, 3329325298]
theorem KL_bvl : bvl KL = KZ := by decide
theorem laid_KZ : Rows.laid_smithy_sha_constants (H := Unit) = .agg (KZ.map fun n => .lit (.int .u32 n)) := rfl
theorem const_cell {W : World} (h : laidMetH Tryd.prog [("smithy/sha.constants", Rows.laid_smithy_sha_constants)] W) (r : Nat) (hr : r < 64) : W.cell? ⟨0, r, none⟩ = some (.int .u32 (KZ.getD r 0)) := by
  rw [MakeChecks.laidMetH_plain _ _ _ (by kernel_rfl)] at h
  obtain ⟨ps, ⟨g, t, cs, fuel, p, q, hg, ht, hv, hd, _, _⟩, _, _⟩ := h
  obtain rfl := Option.some.inj ((show Tryd.prog.globalNamed "smithy/sha.constants" = some 0 by kernel_rfl).symm.trans hg)
  obtain rfl := Option.some.inj ((show (Tryd.prog.globals[0]?).map (·.type) = some 57 by kernel_rfl).symm.trans ht)
  obtain ⟨xs, m, _, ex, _, hl, hel⟩ := DataW.trod_array Tryd.underlying57 hd
  have c5 : Tryd.prog.cellsOf 45 = 1 := by kernel_rfl
  have hE := hel r hr
  rw [c5, Nat.mul_one, List.getElem?_eq_getElem (by omega)] at hE
  obtain ⟨z, e1, e2, _⟩ := DataW.trod_int Tryd.underlying45 hE
  have hlen : KZ.length = 64 := rfl
  rw [laid_KZ] at ex
  have e3 : (xs.map (·.1)) = KZ.map fun n => .lit (.int .u32 n) := (DataW.agg.inj (Prod.mk.inj ex).1).symm
  have e4 : (xs.map (·.1))[r]? = (KZ.map fun n => (DataW.lit (.int .u32 n) : DataW Unit))[r]? := by rw [e3]
  rw [List.getElem?_map, List.getElem?_map, List.getElem?_eq_getElem (by omega : r < xs.length), List.getElem?_eq_getElem (by omega : r < KZ.length), e2] at e4
  have hz : z = KZ.getD r 0 := by
    simp only [Option.map_some, Option.some.injEq, DataW.lit.injEq, Lit.int.injEq, true_and] at e4
    rw [e4, List.getD, List.getElem?_eq_getElem (by omega : r < KZ.length)]; rfl
  rw [World.var?_cell hg hv r, ← hz]
  have : cs.toList[r]? = some (.int .u32 z) := by
    have h0 : ((cs.toList.drop r).take 1)[0]? = some (.int .u32 z) := by rw [e1]; rfl
    simpa using h0
  simpa using this
theorem const_rd {W : World} (h : laidMetH Tryd.prog [("smithy/sha.constants", Rows.laid_smithy_sha_constants)] W) : Rd W (.slice (some ⟨0, 0, none⟩) 64 64) .u32 (bvl KL) := by
  rw [KL_bvl]
  have h0 := const_cell h 0 (by decide)
  have hc := const_cell h
  generalize hK : KZ = K at *
  have hlen : K.length = 64 := by rw [← hK]; rfl
  cases ho : W.heap[0]? with
  | none => simp [World.cell?, ho] at h0
  | some o =>
    cases o with
    | cells cs e fz =>
      refine ⟨some ⟨0, 0, none⟩, 64, by rw [hlen], by omega, .inr ⟨0, 0, cs, e, fz, rfl, ho, fun i p hp => ?_⟩⟩
      have hi := (List.getElem?_eq_some_iff.1 hp).1
      have h1 := hc i (by omega)
      simp only [World.cell?, ho] at h1
      rw [if_neg (by simp)] at h1
      rw [Nat.zero_add, h1, List.getD, hp]
      rfl
    | _ => simp [World.cell?, ho] at h0
end Go.Proofs.YtjolmphkmfbpbaaDoor
/- Package sha: down, numbers, block. -/
namespace Go.Proofs.YtjolmphkmfbpbaaDoor
open Go.RowKit
set_option maxRecDepth 20000
set_option maxHeartbeats 40000000
/-- Turned down. -/
def ror (a : U32) (n : Nat) : U32 := (a <<< (32 - n)) ||| (a >>> (32 - (32 - n)))
theorem wrap_neg {n : Nat} (h : 0 < n ∧ n < 32) : IntKind.u64.wrap (0 - (n : Int)) = ((18446744073709551616 - n : Nat) : Int) := by
  have h1 : IntKind.u64.wrap (0 - (n : Int)) = (0 - (n : Int)) % 18446744073709551616 := rfl
  rw [h1]
  omega
theorem and31 {n : Nat} (h : 0 < n ∧ n < 32) : (18446744073709551616 - n) &&& 31 = 32 - n := by
  rw [show (31 : Nat) = 2 ^ 5 - 1 by decide, Nat.and_two_pow_sub_one_eq_mod]
  omega
theorem rotl_any (a : U32) (n : Nat) (h : 0 < n ∧ n < 32) (w : World) : Fn Tryd.prog 63 #[.int .u32 (a.toNat : Nat), .int .i64 (0 - (n : Int))] w fun v N => v = .int .u32 ((ror a n).toNat : Nat) ∧ N = [] := by
  have h1 := wrap_neg h
  have h2 := and31 h
  refine Fn_of (args := [.int .u32 (a.toNat : Nat), .int .i64 (0 - (n : Int))]) Tryd.func63 rfl Tryd.ntmps63 Tryd.results63 (by simp) ?_
  refine T_sr ?_
  refine S_as rfl rfl rfl ?_
  refine S_nx ?_
  refine T_sr ?_
  refine S_mv rfl rfl rfl ?_
  refine S_val rfl rfl (Y_conv (und rfl) (und rfl) rfl (by assumption)) ?_
  refine S_val rfl rfl (Y_andV rfl rfl (nat_cast _) (nat_lit' _) rfl (by simp only [IntKind.bits]; omega) (by simp only [IntKind.bits]; omega) (by assumption)) ?_
  refine S_as rfl rfl rfl ?_
  refine S_nx ?_
  refine T_sr ?_
  refine S_mv rfl rfl rfl ?_
  refine S_mv rfl rfl rfl ?_
  refine S_val rfl rfl (Y_bshl rfl rfl (nat_cast _)) ?_
  refine S_mv rfl rfl rfl ?_
  refine S_mv rfl rfl rfl ?_
  refine S_val rfl rfl (Y_subU rfl rfl (nat_lit' _) (nat_cast _) rfl (by omega) (by simp only [IntKind.bits]; omega)) ?_
  refine S_val rfl rfl (Y_bshr rfl rfl (nat_cast _)) ?_
  refine S_val rfl rfl (Y_bor rfl rfl) ?_
  refine S_as rfl rfl rfl ?_
  refine S_nx ?_
  refine T_ret ?_
  ((first | refine X_fin_ret ?_ | refine X_fin ?_); exact ⟨[_], [], .cons (.tmp rfl) .nil, Emb.nil _, rfl, rfl⟩)
theorem sdown_any (a : U32) (n : Nat) (h : 0 < n ∧ n < 32) (w : World) : Fn Tryd.prog 38 #[.int .u32 (a.toNat : Nat), .int .i64 (n : Nat)] w fun v N => v = .int .u32 ((ror a n).toNat : Nat) ∧ N = [] := by
  refine Fn_of (args := [.int .u32 (a.toNat : Nat), .int .i64 (n : Nat)]) Tryd.func38 rfl Tryd.ntmps38 Tryd.results38 (by simp) ?_
  refine T_sr ?_
  refine S_as rfl rfl rfl ?_
  refine S_nx ?_
  refine T_sr ?_
  refine S_mv rfl rfl rfl ?_
  refine S_mv rfl rfl rfl ?_
  refine S_val rfl rfl (Y_neg rfl (wi64 (by omega) (by omega))) ?_
  refine S_callV rfl rfl (bod rfl) (fun w hs => rotl_any a n h _) rfl rfl ?_
  refine S_as rfl rfl rfl ?_
  refine S_nx ?_
  refine T_ret ?_
  ((first | refine X_fin_ret ?_ | refine X_fin ?_); exact ⟨[_], [], .cons (.tmp rfl) .nil, Emb.nil _, rfl, rfl⟩)
def w0 (l : List U32) (i : Nat) : U32 := l[i]?.getD 0
theorem w0_of {l : List U32} {i : Nat} {a : U32} (h : l[i]? = some a) : w0 l i = a := by unfold w0; rw [h]; rfl
theorem bvl_w0 {l : List U32} {i n : Nat} (hl : l.length = n) (h : i < n) : (bvl l)[i]? = some (((w0 l i).toNat : Nat) : Int) := by
  obtain ⟨a, e⟩ := some_get hl h
  rw [w0_of e]
  exact bvl_get e
/-- The numbers after so many bytes. -/
def wA (bs : List U8) : Nat → List U32
  | 0 => List.replicate 64 0
  | i + 1 => (wA bs i).set (i / 4) (((w0 (wA bs i) (i / 4)) <<< 8) ||| ((bs[i]?.getD 0).setWidth 32))
def sg0 (x : U32) : U32 := ror x 7 ^^^ ror x 18 ^^^ x >>> 3
def sg1 (x : U32) : U32 := ror x 17 ^^^ ror x 19 ^^^ x >>> 10
/-- .. after so many more numbers. -/
def wB (bs : List U8) : Nat → List U32
  | 0 => wA bs 64
  | i + 1 => (wB bs i).set (i + 16) (w0 (wB bs i) i + w0 (wB bs i) (i + 9) + sg0 (w0 (wB bs i) (i + 1)) + sg1 (w0 (wB bs i) (i + 14)))
@[simp] theorem wA_length (bs : List U8) : ∀ i, (wA bs i).length = 64
  | 0 => by simp [wA]
  | i + 1 => by unfold wA; rw [List.length_set, wA_length bs i]
@[simp] theorem wB_length (bs : List U8) : ∀ i, (wB bs i).length = 64
  | 0 => wA_length bs 64
  | i + 1 => by unfold wB; rw [List.length_set, wB_length bs i]
theorem wA_zero (bs : List U8) : wA bs 0 = List.replicate 64 0 := by rw [wA]
theorem wA_succ (bs : List U8) (i : Nat) : wA bs (i + 1) = (wA bs i).set (i / 4) (((w0 (wA bs i) (i / 4)) <<< 8) ||| ((bs[i]?.getD 0).setWidth 32)) := by rw [wA]
theorem wB_zero (bs : List U8) : wB bs 0 = wA bs 64 := by rw [wB]
theorem wB_succ (bs : List U8) (i : Nat) : wB bs (i + 1) = (wB bs i).set (i + 16) (w0 (wB bs i) i + w0 (wB bs i) (i + 9) + sg0 (w0 (wB bs i) (i + 1)) + sg1 (w0 (wB bs i) (i + 14))) := by rw [wB]
attribute [irreducible] wA wB
def wAll (bs : List U8) : List U32 := wB bs 48
theorem bvl_zero (n : Nat) : bvl (List.replicate n 0) = List.replicate n 0 := by unfold bvl; rw [List.map_replicate]; rfl
theorem numbers_any (bs : List U8) (hb : bs.length = 64) (v : Value) (w : World) (hr : Rd w v .u8 (byl bs)) : Fn Tryd.prog 37 #[v] w fun u N => u = .agg (ints .u32 (bvl (wAll bs))) ∧ N = [] := by
  have hbl : (byl bs).length = 64 := by rw [byl_length, hb]
  unfold wAll
  refine Fn_of (args := [v]) Tryd.func37 rfl Tryd.ntmps37 Tryd.results37 (by simp) ?_
  refine T_sr ?_
  refine S_allocA (zer rfl) rfl rfl fun _ => ?_
  refine S_nx ?_
  refine T_sr ?_
  refine S_allocA (zer rfl) rfl rfl fun _ => ?_
  refine S_nx ?_
  refine T_seq ?_
  refine T_sr ?_
  refine S_mv rfl rfl rfl ?_
  refine S_val rfl rfl (Y_lenV rfl (und rfl) rfl (fun _ hs => Rd.st (by assumption) hs) (by assumption)) ?_
  refine S_mv rfl rfl rfl ?_
  refine S_nx ?_
  refine T_block ?_
  rename_i b1 b2
  refine T_loop (α := Nat) (fun i => i ≤ 64)
    (fun i => [(0, v), (2, .pointer (some ⟨b1, 0, none⟩)), (3, .pointer (some ⟨b2, 0, none⟩)), (9, v), (10, .int .i64 (64 : Nat)), (11, .int .i64 i)])
    (fun i => [blk b1 (.cells (ints .u32 (List.replicate 64 0)) 57 (0, 0)), blk b2 (.cells (ints .u32 (bvl (wA bs i))) 57 (0, 0))])
    (fun i => 64 - i) 0 (by omega) (by repeat (first | exact Env.sub_nil _ | (apply Env.sub_cons; rfl))) [] (by rw [wA_zero, bvl_zero]; rfl) ?_
  intro i hi
  by_cases h : i < 64
  · have hq := bvl_w0 (wA_length bs i) (show i / 4 < 64 by omega)
    obtain ⟨c, hc⟩ := some_get hb h
    have hn : (bvl (wA bs i)).set (i / 4) (((((w0 (wA bs i) (i / 4)) <<< 8) ||| (c.setWidth 32)).toNat : Nat) : Int) = bvl (wA bs (i + 1)) := by
      rw [bvl_set, wA_succ, hc]
      rfl
    have hwl := wA_length bs i
    generalize w0 (wA bs i) (i / 4) = z at *
    generalize wA bs i = l at *
    refine T_sr ?_
    refine S_val rfl rfl (Y_lss_t rfl rfl (by omega)) ?_
    refine S_nx ?_
    refine T_seq ?_
    refine T_cond_true rfl ?_
    refine T_skip ?_
    refine X_seq ?_
    refine T_seq ?_
    refine T_block ?_
    refine T_sr ?_
    refine S_mv rfl rfl rfl ?_
    refine S_val rfl rfl (Y_ixV (und rfl) (siz rfl) rfl rfl (fun _ hs => Rd.st (by assumption) hs) (nat_cast _) (by simp; omega)) ?_
    refine S_val rfl rfl (Y_loadV (und rfl) rfl rfl (fun _ hs => Rd.st (by assumption) hs) (byl_get (by assumption))) ?_
    refine S_as rfl rfl rfl ?_
    refine S_as rfl rfl rfl ?_
    refine S_nx ?_
    refine T_region ?_
    refine S_mv rfl rfl rfl ?_
    refine S_val rfl rfl (Y_quoN rfl rfl (nat_cast _) (nat_lit' _) (Nat.succ_ne_zero _) (by first | with_reducible exact xi64 (by omega) | with_reducible exact x64 (by omega) | with_reducible exact x8 (by omega) | with_reducible exact x32 (by omega))) ?_
    refine S_mv rfl rfl rfl ?_
    refine S_val rfl rfl (Y_quoN rfl rfl (nat_cast _) (nat_lit' _) (Nat.succ_ne_zero _) (by first | with_reducible exact xi64 (by omega) | with_reducible exact x64 (by omega) | with_reducible exact x8 (by omega) | with_reducible exact x32 (by omega))) ?_
    refine S_val rfl rfl (Y_ixa (und rfl) (siz rfl) rfl rfl (nat_cast _) (by omega)) ?_
    refine S_val rfl rfl (Y_loadI 1 (und rfl) rfl rfl rfl (by assumption)) ?_
    refine S_val rfl rfl (Y_bshl rfl rfl (nat_lit' _)) ?_
    refine S_mv rfl rfl rfl ?_
    refine S_val rfl rfl (Y_bconv (und rfl) (und rfl) rfl) ?_
    refine S_val rfl rfl (Y_bor rfl rfl) ?_
    refine S_val rfl rfl (Y_ixa (und rfl) (siz rfl) rfl rfl (nat_cast _) (by omega)) ?_
    refine S_storeI 1 (siz rfl) rfl rfl rfl (by simp; omega) rfl rfl ?_
    refine S_nil ?_
    refine X_blk ?_
    refine X_seq ?_
    refine T_region ?_
    refine S_val rfl rfl (Y_addN rfl rfl (nat_cast _) (nat_lit' _) (by omega)) ?_
    refine S_mv rfl rfl rfl ?_
    refine S_nil ?_
    refine X_loop ?_
    exact ⟨i + 1, by omega, by omega, (by repeat (first | exact Env.sub_nil _ | (apply Env.sub_cons; rfl))), [], by rw [← hn]; rfl⟩
  · obtain rfl : i = 64 := by omega
    refine T_sr ?_
    refine S_val rfl rfl (Y_lss_f rfl rfl (by decide)) ?_
    refine S_nx ?_
    refine T_seq ?_
    refine T_cond_false rfl ?_
    refine T_exit ?_
    refine X_seq_exit ?_
    refine X_loop_exit ?_
    refine X_blk_hit rfl ?_
    refine X_seq ?_
    refine T_seq ?_
    refine T_sr ?_
    refine S_as rfl rfl rfl ?_
    refine S_nx ?_
    refine T_block ?_
    refine T_loop (α := Nat) (fun i => i ≤ 48)
      (fun i => [(2, .pointer (some ⟨b1, 0, none⟩)), (3, .pointer (some ⟨b2, 0, none⟩)), (6, .int .i64 (i + 16 : Nat))])
      (fun i => [blk b1 (.cells (ints .u32 (List.replicate 64 0)) 57 (0, 0)), blk b2 (.cells (ints .u32 (bvl (wB bs i))) 57 (0, 0))])
      (fun i => 48 - i) 0 (by omega) (by repeat (first | exact Env.sub_nil _ | (apply Env.sub_cons; rfl))) [] (by rw [wB_zero]; rfl) ?_
    intro i hi
    have hwl := wB_length bs i
    by_cases h : i < 48
    · have q0 := bvl_w0 hwl (show i < 64 by omega)
      have q1 := bvl_w0 hwl (show i + 1 < 64 by omega)
      have q9 := bvl_w0 hwl (show i + 9 < 64 by omega)
      have q14 := bvl_w0 hwl (show i + 14 < 64 by omega)
      have hn : (bvl (wB bs i)).set (i + 16) (((w0 (wB bs i) i + w0 (wB bs i) (i + 9) + (ror (w0 (wB bs i) (i + 1)) 7 ^^^ ror (w0 (wB bs i) (i + 1)) 18 ^^^ (w0 (wB bs i) (i + 1)) >>> 3) + (ror (w0 (wB bs i) (i + 14)) 17 ^^^ ror (w0 (wB bs i) (i + 14)) 19 ^^^ (w0 (wB bs i) (i + 14)) >>> 10)).toNat : Nat) : Int) = bvl (wB bs (i + 1)) := by
        rw [bvl_set, wB_succ]
        rfl
      generalize w0 (wB bs i) i = z0 at *
      generalize w0 (wB bs i) (i + 1) = z1 at *
      generalize w0 (wB bs i) (i + 9) = z9 at *
      generalize w0 (wB bs i) (i + 14) = z14 at *
      generalize wB bs i = l at *
      have p0 : (bvl l)[i + 16 - 16]? = some ((z0.toNat : Nat) : Int) := by rw [show i + 16 - 16 = i by omega]; exact q0
      have p1 : (bvl l)[i + 16 - 15]? = some ((z1.toNat : Nat) : Int) := by rw [show i + 16 - 15 = i + 1 by omega]; exact q1
      have p9 : (bvl l)[i + 16 - 7]? = some ((z9.toNat : Nat) : Int) := by rw [show i + 16 - 7 = i + 9 by omega]; exact q9
      have p14 : (bvl l)[i + 16 - 2]? = some ((z14.toNat : Nat) : Int) := by rw [show i + 16 - 2 = i + 14 by omega]; exact q14
      clear q0 q1 q9 q14
      refine T_seq ?_
      refine T_sr ?_
      refine S_mv rfl rfl rfl ?_
      refine S_val rfl rfl (Y_lss_t rfl rfl (by omega)) ?_
      refine S_nx ?_
      refine T_cond_true rfl ?_
      refine T_skip ?_
      refine X_seq ?_
      refine T_seq ?_
      refine T_block ?_
      refine T_seq ?_
      refine T_draw (by kernel_rfl) (by kernel_rfl) rfl ?_
      refine D0_val rfl rfl rfl (Y_move rfl) ?_
      refine D0_val rfl rfl rfl (Y_subN rfl rfl (nat_cast _) (nat_lit' _) (Nat.le_of_ble_eq_true rfl) (by omega)) ?_
      refine D0_val rfl rfl rfl (Y_ixa (und rfl) (siz rfl) rfl rfl (nat_cast _) (by omega)) ?_
      refine D0_valM rfl rfl rfl (Y_loadI 1 (und rfl) rfl rfl rfl (by assumption)) ?_
      refine D0_val rfl rfl rfl (Y_move rfl) ?_
      refine D0_val rfl rfl rfl (Y_subN rfl rfl (nat_cast _) (nat_lit' _) (Nat.le_of_ble_eq_true rfl) (by omega)) ?_
      refine D0_val rfl rfl rfl (Y_ixa (und rfl) (siz rfl) rfl rfl (nat_cast _) (by omega)) ?_
      refine D0_valM rfl rfl rfl (Y_loadI 1 (und rfl) rfl rfl rfl (by assumption)) ?_
      refine D0_val rfl rfl rfl (Y_assign rfl) ?_
      refine D0_val rfl rfl rfl (Y_assign rfl) ?_
      refine D0_nil ?_
      refine X_seq ?_
      refine T_draw (by kernel_rfl) (by kernel_rfl) rfl ?_
      refine D0_val rfl rfl rfl (Y_move rfl) ?_
      refine D0_val rfl rfl rfl (Y_move rfl) ?_
      refine D0_val rfl rfl rfl (Y_subN rfl rfl (nat_cast _) (nat_lit' _) (Nat.le_of_ble_eq_true rfl) (by omega)) ?_
      refine D0_val rfl rfl rfl (Y_ixa (und rfl) (siz rfl) rfl rfl (nat_cast _) (by omega)) ?_
      refine D0_valM rfl rfl rfl (Y_loadI 1 (und rfl) rfl rfl rfl (by assumption)) ?_
      refine D0_val rfl rfl rfl (Y_move rfl) ?_
      refine D0_val rfl rfl rfl (Y_subN rfl rfl (nat_cast _) (nat_lit' _) (Nat.le_of_ble_eq_true rfl) (by omega)) ?_
      refine D0_val rfl rfl rfl (Y_ixa (und rfl) (siz rfl) rfl rfl (nat_cast _) (by omega)) ?_
      refine D0_valM rfl rfl rfl (Y_loadI 1 (und rfl) rfl rfl rfl (by assumption)) ?_
      refine D0_val rfl rfl rfl (Y_badd rfl rfl) ?_
      refine D0_val rfl rfl rfl (Y_move rfl) ?_
      refine D0_callV rfl rfl (bod rfl) (fun w hs => sdown_any z1 7 (by omega) _) rfl rfl ?_
      refine D0_val rfl rfl rfl (Y_move rfl) ?_
      refine D0_callV rfl rfl (bod rfl) (fun w hs => sdown_any z1 18 (by omega) _) rfl rfl ?_
      refine D0_val rfl rfl rfl (Y_bxor rfl rfl) ?_
      refine D0_val rfl rfl rfl (Y_move rfl) ?_
      refine D0_val rfl rfl rfl (Y_bshr rfl rfl (nat_lit' _)) ?_
      refine D0_val rfl rfl rfl (Y_bxor rfl rfl) ?_
      refine D0_val rfl rfl rfl (Y_badd rfl rfl) ?_
      refine D0_val rfl rfl rfl (Y_move rfl) ?_
      refine D0_callV rfl rfl (bod rfl) (fun w hs => sdown_any z14 17 (by omega) _) rfl rfl ?_
      refine D0_val rfl rfl rfl (Y_move rfl) ?_
      refine D0_callV rfl rfl (bod rfl) (fun w hs => sdown_any z14 19 (by omega) _) rfl rfl ?_
      refine D0_val rfl rfl rfl (Y_bxor rfl rfl) ?_
      refine D0_val rfl rfl rfl (Y_move rfl) ?_
      refine D0_val rfl rfl rfl (Y_bshr rfl rfl (nat_lit' _)) ?_
      refine D0_val rfl rfl rfl (Y_bxor rfl rfl) ?_
      refine D0_val rfl rfl rfl (Y_badd rfl rfl) ?_
      refine D0_val rfl rfl rfl (Y_ixa (und rfl) (siz rfl) rfl rfl (nat_cast _) (by omega)) ?_
      refine D0_storeI 1 (by kernel_rfl) (siz rfl) rfl rfl rfl (by simp; omega) rfl rfl ?_
      refine D0_nil ?_
      refine X_blk ?_
      refine X_seq ?_
      refine T_region ?_
      refine S_mv rfl rfl rfl ?_
      refine S_val rfl rfl (Y_addN rfl rfl (nat_cast _) (nat_lit' _) (by omega)) ?_
      refine S_as rfl rfl rfl ?_
      refine S_nil ?_
      refine X_loop ?_
      exact ⟨i + 1, by omega, by omega, (by repeat (first | exact Env.sub_nil _ | (apply Env.sub_cons; rfl))), [], by rw [← hn]; rfl⟩
    · obtain rfl : i = 48 := by omega
      generalize wB bs 48 = l at *
      have hl2 : (bvl l).length = 64 := by rw [bvl_length, hwl]
      have hl0 : (List.replicate 64 (0 : Int)).length = 64 := List.length_replicate
      refine T_seq ?_
      refine T_sr ?_
      refine S_mv rfl rfl rfl ?_
      refine S_val rfl rfl (Y_lss_f rfl rfl (by decide)) ?_
      refine S_nx ?_
      refine T_cond_false rfl ?_
      refine T_exit ?_
      refine X_seq_exit ?_
      refine X_loop_exit ?_
      refine X_blk_hit rfl ?_
      refine X_seq ?_
      refine T_sr ?_
      refine S_val rfl rfl (Y_loadAI 1 (und rfl) rfl rfl rfl (siz rfl) (by assumption)) ?_
      refine S_storeAI 0 (siz rfl) rfl rfl rfl rfl (by assumption) rfl ?_
      refine S_nx ?_
      refine T_ret ?_
      ((first | refine X_fin_ret ?_ | refine X_fin ?_); exact ⟨[_], [], .cons (.agg 0 rfl (und rfl) rfl rfl (by rw [ints_size, hl2]; exact siz rfl)) .nil, Emb.nil _, rfl, rfl⟩)
end Go.Proofs.YtjolmphkmfbpbaaDoor
/- Package sha: block. -/
namespace Go.Proofs.YtjolmphkmfbpbaaDoor
open Go.RowKit
set_option maxRecDepth 20000
set_option maxHeartbeats 40000000
abbrev S8 := U32 × U32 × U32 × U32 × U32 × U32 × U32 × U32
def l8 : S8 → List U32 := fun (a, b, c, d, e, f, g, h) => [a, b, c, d, e, f, g, h]
def t8 (l : List U32) : S8 := (w0 l 0, w0 l 1, w0 l 2, w0 l 3, w0 l 4, w0 l 5, w0 l 6, w0 l 7)
theorem l8_t8 {l : List U32} (h : l.length = 8) : l8 (t8 l) = l := by
  match l, h with
  | [a, b, c, d, e, f, g, h], _ => rfl
@[simp] theorem l8_length (s : S8) : (l8 s).length = 8 := rfl
def rndT (e f g h k x : U32) : U32 := h + (ror e 6 ^^^ ror e 11 ^^^ ror e 25) + ((e &&& f) ^^^ (~~~ e &&& g)) + k + x
def rndU (a b c : U32) : U32 := (ror a 2 ^^^ ror a 13 ^^^ ror a 22) + ((a &&& b) ^^^ (a &&& c) ^^^ (b &&& c))
def rnd : S8 → U32 → U32 → S8 := fun (a, b, c, d, e, f, g, h) k x => (rndT e f g h k x + rndU a b c, a, b, c, d + rndT e f g h k x, e, f, g)
/-- The eight numbers after so many rounds. -/
def rs (K X : List U32) (s : S8) : Nat → S8
  | 0 => s
  | i + 1 => rnd (rs K X s i) (w0 K i) (w0 X i)
/-- .. added. -/
def adds (l m : List U32) : Nat → List U32
  | 0 => l
  | i + 1 => (adds l m i).set i (w0 (adds l m i) i + w0 m i)
@[simp] theorem adds_length (l m : List U32) : ∀ i, (adds l m i).length = l.length
  | 0 => rfl
  | i + 1 => by unfold adds; rw [List.length_set, adds_length l m i]
theorem rs_zero (K X : List U32) (s : S8) : rs K X s 0 = s := by rw [rs]
theorem rs_succ (K X : List U32) (s : S8) (i : Nat) : rs K X s (i + 1) = rnd (rs K X s i) (w0 K i) (w0 X i) := by rw [rs]
theorem adds_zero (l m : List U32) : adds l m 0 = l := by rw [adds]
theorem adds_succ (l m : List U32) (i : Nat) : adds l m (i + 1) = (adds l m i).set i (w0 (adds l m i) i + w0 m i) := by rw [adds]
attribute [irreducible] rs adds
def blockF (K l : List U32) (bs : List U8) : List U32 := adds l (l8 (rs K (wAll bs) (t8 l) 64)) 8
theorem blockF_length {K l : List U32} {bs : List U8} (h : l.length = 8) : (blockF K l bs).length = 8 := by unfold blockF; rw [adds_length, h]
theorem block_any (K l : List U32) (bs : List U8) (hK : K.length = 64) (hl : l.length = 8) (hb : bs.length = 64) (v : Value) (w : World) (hg : Rd w (.slice (some ⟨0, 0, none⟩) 64 64) .u32 (bvl K)) (hr : Rd w v .u8 (byl bs)) : Fn Tryd.prog 20 #[.agg (ints .u32 (bvl l)), v] w fun u N => u = .agg (ints .u32 (bvl (blockF K l bs))) ∧ N = [] := by
  have nb := fun w hr => numbers_any bs hb v w hr
  have hWl : (wAll bs).length = 64 := wB_length bs 48
  unfold blockF
  generalize wAll bs = X at *
  have hX : (bvl X).length = 64 := by rw [bvl_length, hWl]
  have hL : (bvl l).length = 8 := by rw [bvl_length, hl]
  refine Fn_of (args := [.agg (ints .u32 (bvl l)), v]) Tryd.func20 rfl Tryd.ntmps20 Tryd.results20 (by simp) ?_
  refine T_sr ?_
  refine S_boxA rfl rfl rfl fun _ => ?_
  refine S_allocA (zer rfl) rfl rfl fun _ => ?_
  refine S_nx ?_
  refine T_sr ?_
  refine S_mv rfl rfl rfl ?_
  refine S_callV rfl rfl (bod rfl) (fun w hs => nb _ (by first | exact hs.rowRd 0 rfl | exact hs.rowRd 1 rfl | exact hs.rowRd 2 rfl | exact hs.rowRd 3 rfl | exact hs.rowRd 4 rfl | exact hs.rowRd 5 rfl | exact hs.rowRd 6 rfl | exact hs.rowRd 7 rfl | exact hs.rowRd 8 rfl | exact hs.rowRd 9 rfl | exact hs.rowRd 10 rfl | exact hs.rowRd 11 rfl | exact hs.rowRd 12 rfl | exact hs.rowRd 13 rfl | exact Rd.st (by assumption) hs)) rfl rfl ?_
  refine S_allocA (zer rfl) rfl rfl fun _ => ?_
  refine S_storeAI 2 (siz rfl) rfl rfl rfl rfl (by assumption) rfl ?_
  refine S_nx ?_
  refine T_sr ?_
  refine S_val rfl rfl (Y_loadAI 0 (und rfl) rfl rfl rfl (siz rfl) (by assumption)) ?_
  refine S_allocA (zer rfl) rfl rfl fun _ => ?_
  refine S_storeAI 3 (siz rfl) rfl rfl rfl rfl (by assumption) rfl ?_
  refine S_nx ?_
  refine T_seq ?_
  refine T_sr ?_
  refine S_mv rfl rfl rfl ?_
  refine S_nx ?_
  refine T_block ?_
  rename_i b1 b2 b3 b4
  refine T_loop (α := Nat) (fun i => i ≤ 64)
    (fun i => [(2, .pointer (some ⟨b1, 0, none⟩)), (4, .pointer (some ⟨b2, 0, none⟩)), (5, .pointer (some ⟨b3, 0, none⟩)), (6, .pointer (some ⟨b4, 0, none⟩)), (16, .int .i64 i)])
    (fun i => [blk b1 (.cells (ints .u32 (bvl l)) 46 (0, 0)), blk b2 (.cells (ints .u32 (List.replicate 8 0)) 46 (0, 0)), blk b3 (.cells (ints .u32 (bvl X)) 57 (0, 0)), blk b4 (.cells (ints .u32 (bvl (l8 (rs K X (t8 l) i)))) 46 (0, 0))])
    (fun i => 64 - i) 0 (by omega) (by repeat (first | exact Env.sub_nil _ | (apply Env.sub_cons; rfl))) [] (by rw [rs_zero, l8_t8 hl]; rfl) ?_
  intro i hi
  by_cases h : i < 64
  · have hk := bvl_w0 hK h
    have hx := bvl_w0 hWl h
    have hn : bvl (l8 (rs K X (t8 l) (i + 1))) = bvl (l8 (rnd (rs K X (t8 l) i) (w0 K i) (w0 X i))) := by rw [rs_succ]
    generalize w0 K i = k0 at *
    generalize w0 X i = x0 at *
    generalize rs K X (t8 l) i = s at *
    obtain ⟨va, vb, vc, vd, ve, vf, vg, vh⟩ := s
    refine T_sr ?_
    refine S_val rfl rfl (Y_lss_t rfl rfl (by omega)) ?_
    refine S_nx ?_
    refine T_seq ?_
    refine T_cond_true rfl ?_
    refine T_skip ?_
    refine X_seq ?_
    refine T_seq ?_
    refine T_block ?_
    refine T_sr ?_
    refine S_mv rfl rfl rfl ?_
    refine S_as rfl rfl rfl ?_
    refine S_nx ?_
    refine T_seq ?_
    refine T_draw (by kernel_rfl) (by kernel_rfl) rfl ?_
    refine D0_val rfl rfl rfl (Y_ixa (und rfl) (siz rfl) rfl rfl (nat_lit' _) (Nat.le_of_ble_eq_true rfl)) ?_
    refine D0_valM rfl rfl rfl (Y_loadI 3 (und rfl) rfl rfl rfl rfl) ?_
    refine D0_val rfl rfl rfl (Y_ixa (und rfl) (siz rfl) rfl rfl (nat_lit' _) (Nat.le_of_ble_eq_true rfl)) ?_
    refine D0_valM rfl rfl rfl (Y_loadI 3 (und rfl) rfl rfl rfl rfl) ?_
    refine D0_val rfl rfl rfl (Y_assign rfl) ?_
    refine D0_val rfl rfl rfl (Y_assign rfl) ?_
    refine D0_nil ?_
    refine X_seq ?_
    refine T_seq ?_
    refine T_draw (by kernel_rfl) (by kernel_rfl) rfl ?_
    refine D0_val rfl rfl rfl (Y_ixa (und rfl) (siz rfl) rfl rfl (nat_lit' _) (Nat.le_of_ble_eq_true rfl)) ?_
    refine D0_valM rfl rfl rfl (Y_loadI 3 (und rfl) rfl rfl rfl rfl) ?_
    refine D0_val rfl rfl rfl (Y_move rfl) ?_
    refine D0_callV rfl rfl (bod rfl) (fun w hs => sdown_any ve 6 (by omega) _) rfl rfl ?_
    refine D0_val rfl rfl rfl (Y_move rfl) ?_
    refine D0_callV rfl rfl (bod rfl) (fun w hs => sdown_any ve 11 (by omega) _) rfl rfl ?_
    refine D0_val rfl rfl rfl (Y_bxor rfl rfl) ?_
    refine D0_val rfl rfl rfl (Y_move rfl) ?_
    refine D0_callV rfl rfl (bod rfl) (fun w hs => sdown_any ve 25 (by omega) _) rfl rfl ?_
    refine D0_val rfl rfl rfl (Y_bxor rfl rfl) ?_
    refine D0_val rfl rfl rfl (Y_badd rfl rfl) ?_
    refine D0_val rfl rfl rfl (Y_move rfl) ?_
    refine D0_val rfl rfl rfl (Y_ixa (und rfl) (siz rfl) rfl rfl (nat_lit' _) (Nat.le_of_ble_eq_true rfl)) ?_
    refine D0_valM rfl rfl rfl (Y_loadI 3 (und rfl) rfl rfl rfl rfl) ?_
    refine D0_val rfl rfl rfl (Y_band rfl rfl) ?_
    refine D0_val rfl rfl rfl (Y_move rfl) ?_
    refine D0_val rfl rfl rfl (Y_bcpl rfl) ?_
    refine D0_val rfl rfl rfl (Y_ixa (und rfl) (siz rfl) rfl rfl (nat_lit' _) (Nat.le_of_ble_eq_true rfl)) ?_
    refine D0_valM rfl rfl rfl (Y_loadI 3 (und rfl) rfl rfl rfl rfl) ?_
    refine D0_val rfl rfl rfl (Y_band rfl rfl) ?_
    refine D0_val rfl rfl rfl (Y_bxor rfl rfl) ?_
    refine D0_val rfl rfl rfl (Y_badd rfl rfl) ?_
    refine D0_val rfl rfl rfl (Y_move rfl) ?_
    refine D0_val rfl rfl rfl (Y_ixa (und rfl) (siz rfl) rfl rfl (nat_cast _) (by assumption)) ?_
    refine D0_valM rfl rfl rfl (Y_loadG (und rfl) rfl rfl (fun _ hs => Rd.st (by assumption) hs) (by assumption)) ?_
    refine D0_val rfl rfl rfl (Y_badd rfl rfl) ?_
    refine D0_val rfl rfl rfl (Y_move rfl) ?_
    refine D0_val rfl rfl rfl (Y_ixa (und rfl) (siz rfl) rfl rfl (nat_cast _) (by assumption)) ?_
    refine D0_valM rfl rfl rfl (Y_loadI 2 (und rfl) rfl rfl rfl (by assumption)) ?_
    refine D0_val rfl rfl rfl (Y_badd rfl rfl) ?_
    refine D0_val rfl rfl rfl (Y_assign rfl) ?_
    refine D0_nil ?_
    refine X_seq ?_
    refine T_seq ?_
    refine T_draw (by kernel_rfl) (by kernel_rfl) rfl ?_
    refine D0_val rfl rfl rfl (Y_move rfl) ?_
    refine D0_callV rfl rfl (bod rfl) (fun w hs => sdown_any va 2 (by omega) _) rfl rfl ?_
    refine D0_val rfl rfl rfl (Y_move rfl) ?_
    refine D0_callV rfl rfl (bod rfl) (fun w hs => sdown_any va 13 (by omega) _) rfl rfl ?_
    refine D0_val rfl rfl rfl (Y_bxor rfl rfl) ?_
    refine D0_val rfl rfl rfl (Y_move rfl) ?_
    refine D0_callV rfl rfl (bod rfl) (fun w hs => sdown_any va 22 (by omega) _) rfl rfl ?_
    refine D0_val rfl rfl rfl (Y_bxor rfl rfl) ?_
    refine D0_val rfl rfl rfl (Y_move rfl) ?_
    refine D0_val rfl rfl rfl (Y_ixa (und rfl) (siz rfl) rfl rfl (nat_lit' _) (Nat.le_of_ble_eq_true rfl)) ?_
    refine D0_valM rfl rfl rfl (Y_loadI 3 (und rfl) rfl rfl rfl rfl) ?_
    refine D0_val rfl rfl rfl (Y_band rfl rfl) ?_
    refine D0_val rfl rfl rfl (Y_move rfl) ?_
    refine D0_val rfl rfl rfl (Y_ixa (und rfl) (siz rfl) rfl rfl (nat_lit' _) (Nat.le_of_ble_eq_true rfl)) ?_
    refine D0_valM rfl rfl rfl (Y_loadI 3 (und rfl) rfl rfl rfl rfl) ?_
    refine D0_val rfl rfl rfl (Y_band rfl rfl) ?_
    refine D0_val rfl rfl rfl (Y_bxor rfl rfl) ?_
    refine D0_val rfl rfl rfl (Y_ixa (und rfl) (siz rfl) rfl rfl (nat_lit' _) (Nat.le_of_ble_eq_true rfl)) ?_
    refine D0_valM rfl rfl rfl (Y_loadI 3 (und rfl) rfl rfl rfl rfl) ?_
    refine D0_val rfl rfl rfl (Y_ixa (und rfl) (siz rfl) rfl rfl (nat_lit' _) (Nat.le_of_ble_eq_true rfl)) ?_
    refine D0_valM rfl rfl rfl (Y_loadI 3 (und rfl) rfl rfl rfl rfl) ?_
    refine D0_val rfl rfl rfl (Y_band rfl rfl) ?_
    refine D0_val rfl rfl rfl (Y_bxor rfl rfl) ?_
    refine D0_val rfl rfl rfl (Y_badd rfl rfl) ?_
    refine D0_val rfl rfl rfl (Y_assign rfl) ?_
    refine D0_nil ?_
    refine X_seq ?_
    refine T_region ?_
    refine S_mv rfl rfl rfl ?_
    refine S_mv rfl rfl rfl ?_
    refine S_val rfl rfl (Y_badd rfl rfl) ?_
    refine S_mv rfl rfl rfl ?_
    refine S_val rfl rfl (Y_ixa (und rfl) (siz rfl) rfl rfl (nat_lit' _) (Nat.le_of_ble_eq_true rfl)) ?_
    refine S_val rfl rfl (Y_loadI 3 (und rfl) rfl rfl rfl rfl) ?_
    refine S_val rfl rfl (Y_ixa (und rfl) (siz rfl) rfl rfl (nat_lit' _) (Nat.le_of_ble_eq_true rfl)) ?_
    refine S_val rfl rfl (Y_loadI 3 (und rfl) rfl rfl rfl rfl) ?_
    refine S_val rfl rfl (Y_ixa (und rfl) (siz rfl) rfl rfl (nat_lit' _) (Nat.le_of_ble_eq_true rfl)) ?_
    refine S_val rfl rfl (Y_loadI 3 (und rfl) rfl rfl rfl rfl) ?_
    refine S_mv rfl rfl rfl ?_
    refine S_val rfl rfl (Y_badd rfl rfl) ?_
    refine S_mv rfl rfl rfl ?_
    refine S_val rfl rfl (Y_ixa (und rfl) (siz rfl) rfl rfl (nat_lit' _) (Nat.le_of_ble_eq_true rfl)) ?_
    refine S_val rfl rfl (Y_loadI 3 (und rfl) rfl rfl rfl rfl) ?_
    refine S_val rfl rfl (Y_ixa (und rfl) (siz rfl) rfl rfl (nat_lit' _) (Nat.le_of_ble_eq_true rfl)) ?_
    refine S_val rfl rfl (Y_loadI 3 (und rfl) rfl rfl rfl rfl) ?_
    refine S_val rfl rfl (Y_build (und rfl) (siz rfl) (zer rfl) rfl rfl) ?_
    refine S_storeAI 3 (siz rfl) rfl rfl rfl rfl rfl rfl ?_
    refine S_nil ?_
    refine X_blk ?_
    refine X_seq ?_
    refine T_region ?_
    refine S_val rfl rfl (Y_addN rfl rfl (nat_cast _) (nat_lit' _) (by omega)) ?_
    refine S_mv rfl rfl rfl ?_
    refine S_nil ?_
    refine X_loop ?_
    exact ⟨i + 1, by omega, by omega, (by repeat (first | exact Env.sub_nil _ | (apply Env.sub_cons; rfl))), [], by dsimp only; rw [hn]; rfl⟩
  · obtain rfl : i = 64 := by omega
    have hm : (l8 (rs K X (t8 l) 64)).length = 8 := l8_length _
    generalize l8 (rs K X (t8 l) 64) = m at *
    refine T_sr ?_
    refine S_val rfl rfl (Y_lss_f rfl rfl (by decide)) ?_
    refine S_nx ?_
    refine T_seq ?_
    refine T_cond_false rfl ?_
    refine T_exit ?_
    refine X_seq_exit ?_
    refine X_loop_exit ?_
    refine X_blk_hit rfl ?_
    refine X_seq ?_
    refine T_seq ?_
    refine T_sr ?_
    refine S_mv rfl rfl rfl ?_
    refine S_nx ?_
    refine T_block ?_
    refine T_loop (α := Nat) (fun i => i ≤ 8)
      (fun i => [(2, .pointer (some ⟨b1, 0, none⟩)), (4, .pointer (some ⟨b2, 0, none⟩)), (6, .pointer (some ⟨b4, 0, none⟩)), (96, .int .i64 i)])
      (fun i => [blk b1 (.cells (ints .u32 (bvl (adds l m i))) 46 (0, 0)), blk b2 (.cells (ints .u32 (List.replicate 8 0)) 46 (0, 0)), blk b3 (.cells (ints .u32 (bvl X)) 57 (0, 0)), blk b4 (.cells (ints .u32 (bvl m)) 46 (0, 0))])
      (fun i => 8 - i) 0 (by omega) (by repeat (first | exact Env.sub_nil _ | (apply Env.sub_cons; rfl))) [] (by rw [adds_zero]; rfl) ?_
    intro i hi
    have hal : (adds l m i).length = 8 := by rw [adds_length, hl]
    by_cases h : i < 8
    · have ha := bvl_w0 hal h
      have hmm := bvl_w0 hm h
      have hn : (bvl (adds l m i)).set i (((w0 (adds l m i) i + w0 m i).toNat : Nat) : Int) = bvl (adds l m (i + 1)) := by
        rw [bvl_set, adds_succ]
      generalize w0 (adds l m i) i = y0 at *
      generalize w0 m i = z0 at *
      generalize adds l m i = n at *
      refine T_sr ?_
      refine S_val rfl rfl (Y_lss_t rfl rfl (by omega)) ?_
      refine S_nx ?_
      refine T_seq ?_
      refine T_cond_true rfl ?_
      refine T_skip ?_
      refine X_seq ?_
      refine T_seq ?_
      refine T_block ?_
      refine T_sr ?_
      refine S_mv rfl rfl rfl ?_
      refine S_as rfl rfl rfl ?_
      refine S_nx ?_
      refine T_draw (by kernel_rfl) (by kernel_rfl) rfl ?_
      refine D0_val rfl rfl rfl (Y_move rfl) ?_
      refine D0_val rfl rfl rfl (Y_ixa (und rfl) (siz rfl) rfl rfl (nat_cast _) (by assumption)) ?_
      refine D0_valM rfl rfl rfl (Y_loadI 0 (und rfl) rfl rfl rfl (by assumption)) ?_
      refine D0_val rfl rfl rfl (Y_move rfl) ?_
      refine D0_val rfl rfl rfl (Y_ixa (und rfl) (siz rfl) rfl rfl (nat_cast _) (by assumption)) ?_
      refine D0_valM rfl rfl rfl (Y_loadI 3 (und rfl) rfl rfl rfl (by assumption)) ?_
      refine D0_val rfl rfl rfl (Y_badd rfl rfl) ?_
      refine D0_val rfl rfl rfl (Y_ixa (und rfl) (siz rfl) rfl rfl (nat_cast _) (by assumption)) ?_
      refine D0_storeI 0 (by kernel_rfl) (siz rfl) rfl rfl rfl (by simp; omega) rfl rfl ?_
      refine D0_nil ?_
      refine X_blk ?_
      refine X_seq ?_
      refine T_region ?_
      refine S_val rfl rfl (Y_addN rfl rfl (nat_cast _) (nat_lit' _) (by omega)) ?_
      refine S_mv rfl rfl rfl ?_
      refine S_nil ?_
      refine X_loop ?_
      exact ⟨i + 1, by omega, by omega, (by repeat (first | exact Env.sub_nil _ | (apply Env.sub_cons; rfl))), [], by rw [← hn]; rfl⟩
    · obtain rfl : i = 8 := by omega
      have h8 : (bvl (adds l m 8)).length = 8 := by rw [bvl_length, hal]
      have h0 : (List.replicate 8 (0 : Int)).length = 8 := List.length_replicate
      generalize adds l m 8 = n at *
      refine T_sr ?_
      refine S_val rfl rfl (Y_lss_f rfl rfl (by decide)) ?_
      refine S_nx ?_
      refine T_seq ?_
      refine T_cond_false rfl ?_
      refine T_exit ?_
      refine X_seq_exit ?_
      refine X_loop_exit ?_
      refine X_blk_hit rfl ?_
      refine X_seq ?_
      refine T_sr ?_
      refine S_val rfl rfl (Y_loadAI 0 (und rfl) rfl rfl rfl (siz rfl) (by assumption)) ?_
      refine S_storeAI 1 (siz rfl) rfl rfl rfl rfl (by assumption) rfl ?_
      refine S_nx ?_
      refine T_ret ?_
      ((first | refine X_fin_ret ?_ | refine X_fin ?_); exact ⟨[_], [], .cons (.agg 1 rfl (und rfl) rfl rfl (by rw [ints_size, h8]; exact siz rfl)) .nil, Emb.nil _, rfl, rfl⟩)
end Go.Proofs.YtjolmphkmfbpbaaDoor
/- Package sha: Sum. -/
namespace Go.Proofs.YtjolmphkmfbpbaaDoor
open Go.RowKit
set_option maxRecDepth 20000
set_option maxHeartbeats 40000000
def H0 : List U32 := [0x6a09e667, 0xbb67ae85, 0x3c6ef372, 0xa54ff53a, 0x510e527f, 0x9b05688c, 0x1f83d9ab, 0x5be0cd19]
theorem H0_bvl : bvl H0 = [1779033703, 3144134277, 1013904242, 2773480762, 1359893119, 2600822924, 528734635, 1541459225] := by decide
/-- The numbers after so many blocks. -/
def sums (K : List U32) (l : List U32) (bs : List U8) : Nat → List U32
  | 0 => l
  | i + 1 => blockF K (sums K l bs i) ((bs.drop (64 * i)).take 64)
theorem sums_zero (K l : List U32) (bs : List U8) : sums K l bs 0 = l := by rw [sums]
theorem sums_succ (K l : List U32) (bs : List U8) (i : Nat) : sums K l bs (i + 1) = blockF K (sums K l bs i) ((bs.drop (64 * i)).take 64) := by rw [sums]
theorem sums_length {K l : List U32} {bs : List U8} (h : l.length = 8) : ∀ i, (sums K l bs i).length = 8
  | 0 => by rw [sums_zero, h]
  | i + 1 => by rw [sums_succ, blockF_length (sums_length h i)]
/-- The last bytes: what is left, 128, noughts, the length: without the length. -/
def lastA (r : List U8) : List U8 := (r ++ (List.replicate 128 0).drop r.length).set r.length 128
/-- .. with so many bytes of the length. -/
def lastB (l : List U8) (e n : Nat) : Nat → List U8
  | 0 => l
  | i + 1 => (lastB l e n i).set (e - 1 - i) (BitVec.ofNat 8 (n / 2 ^ (8 * i)))
theorem lastB_zero (l : List U8) (e n : Nat) : lastB l e n 0 = l := by rw [lastB]
theorem lastB_succ (l : List U8) (e n i : Nat) : lastB l e n (i + 1) = (lastB l e n i).set (e - 1 - i) (BitVec.ofNat 8 (n / 2 ^ (8 * i))) := by rw [lastB]
theorem lastB_length (l : List U8) (e n : Nat) : ∀ i, (lastB l e n i).length = l.length
  | 0 => by rw [lastB_zero]
  | i + 1 => by rw [lastB_succ, List.length_set, lastB_length l e n i]
attribute [irreducible] sums lastB
theorem lastA_length {r : List U8} (h : r.length < 64) : (lastA r).length = 128 := by
  unfold lastA
  rw [List.length_set, List.length_append, List.length_drop, List.length_replicate]
  omega
/-- A number's byte. -/
def outs (l : List U32) : Nat → List U8
  | 0 => List.replicate 32 0
  | i + 1 => (outs l i).set i (((w0 l (i / 4)) >>> (24 - i % 4 * 8)).setWidth 8)
theorem outs_zero (l : List U32) : outs l 0 = List.replicate 32 0 := by rw [outs]
theorem outs_succ (l : List U32) (i : Nat) : outs l (i + 1) = (outs l i).set i (((w0 l (i / 4)) >>> (24 - i % 4 * 8)).setWidth 8) := by rw [outs]
theorem outs_length (l : List U32) : ∀ i, (outs l i).length = 32
  | 0 => by rw [outs_zero, List.length_replicate]
  | i + 1 => by rw [outs_succ, List.length_set, outs_length l i]
attribute [irreducible] outs
theorem byl_zero (n : Nat) : byl (List.replicate n 0) = List.replicate n 0 := by unfold byl; rw [List.map_replicate]; rfl
def endN (k : Nat) : Nat := if 56 ≤ k then 128 else 64
/-- The hash. -/
def sumF (K : List U32) (bs : List U8) : List U8 :=
  outs (sums K (sums K H0 bs (bs.length / 64)) (lastB (lastA (bs.drop (64 * (bs.length / 64)))) (endN (bs.length % 64)) (bs.length * 8) 8) (endN (bs.length % 64) / 64)) 32
theorem sum_any (K : List U32) (bs : List U8) (hK : K.length = 64) (hb : bs.length ≤ 1000000) (v : Value) (w : World) (hg : Rd w (.slice (some ⟨0, 0, none⟩) 64 64) .u32 (bvl K)) (hr : Rd w v .u8 (byl bs)) : Fn Tryd.prog 11 #[v] w fun u N => u = .agg (ints .u8 (byl (sumF K bs))) ∧ N = [] := by
  have bl := fun (l : List U32) (c : List U8) (hl : l.length = 8) (hc : c.length = 64) v w hg hr => block_any K l c hK hl hc v w hg hr
  have h0 := H0_bvl
  have hbl : (byl bs).length = bs.length := byl_length bs
  unfold sumF
  refine Fn_of (args := [v]) Tryd.func11 rfl Tryd.ntmps11 Tryd.results11 (by simp) ?_
  refine T_sr ?_
  refine S_allocA (zer rfl) rfl rfl fun _ => ?_
  refine S_nx ?_
  refine T_sr ?_
  refine S_val rfl rfl (Y_build (und rfl) (siz rfl) (zer rfl) rfl rfl) ?_
  refine S_allocA (zer rfl) rfl rfl fun _ => ?_
  refine S_storeAI 1 (siz rfl) rfl rfl rfl rfl rfl rfl ?_
  refine S_nx ?_
  refine T_sr ?_
  refine S_mv rfl rfl rfl ?_
  refine S_val rfl rfl (Y_lenV rfl (und rfl) rfl (fun _ hs => Rd.st (by assumption) hs) (by assumption)) ?_
  refine S_val rfl rfl (Y_conv (und rfl) (und rfl) rfl (wu64 (by omega) (by omega))) ?_
  refine S_val rfl rfl (Y_mulU rfl rfl (nat_cast _) (nat_lit' _) rfl (by simp only [IntKind.bits]; omega)) ?_
  refine S_as rfl rfl rfl ?_
  refine S_nx ?_
  refine T_seq ?_
  refine T_block ?_
  rename_i b1 b2
  refine T_loop (α := Nat × Value) (fun a => 64 * a.1 ≤ bs.length ∧ Rd w a.2 .u8 (byl (bs.drop (64 * a.1))))
    (fun a => [(0, a.2), (2, .pointer (some ⟨b1, 0, none⟩)), (3, .pointer (some ⟨b2, 0, none⟩)), (4, .int .u64 (bs.length * 8 : Nat))])
    (fun a => [blk b1 (.cells (ints .u8 (List.replicate 32 0)) 34 (0, 0)), blk b2 (.cells (ints .u32 (bvl (sums K H0 bs a.1))) 46 (0, 0))])
    (fun a => bs.length - 64 * a.1) (0, v) (⟨by omega, by simpa using hr⟩) (by repeat (first | exact Env.sub_nil _ | (apply Env.sub_cons; rfl))) [] (by rw [sums_zero, h0]; rfl) ?_
  rintro ⟨i, u⟩ ⟨hi, hu⟩
  dsimp only at hi hu ⊢
  have hsl := sums_length (K := K) (bs := bs) (show H0.length = 8 from rfl) i
  have hul : (byl (bs.drop (64 * i))).length = bs.length - 64 * i := by rw [byl_length, List.length_drop]
  by_cases h : 64 ≤ bs.length - 64 * i
  · have hn := sums_succ K H0 bs i
    have hut : Rd w (vTake 64 u) .u8 (byl ((bs.drop (64 * i)).take 64)) := by
      rw [← byl_take]
      exact hu.takeV (by omega)
    have hud : Rd w (vDrop 64 u) .u8 (byl (bs.drop (64 * (i + 1)))) := by
      have := hu.dropV (j := 64) (by omega)
      rwa [byl_drop, List.drop_drop, show 64 * i + 64 = 64 * (i + 1) by omega] at this
    have h64 : 64 ≤ (byl (bs.drop (64 * i))).length := by omega
    have bl2 := fun w hg hr => bl (sums K H0 bs i) ((bs.drop (64 * i)).take 64) hsl (by rw [List.length_take, List.length_drop]; omega) (vTake 64 u) w hg hr
    rw [← hn] at bl2
    have hl8 : (bvl (sums K H0 bs i)).length = 8 := by rw [bvl_length, hsl]
    have hl9 : (bvl (sums K H0 bs (i + 1))).length = 8 := by rw [bvl_length, hn, blockF_length hsl]
    clear bl hn
    generalize hx1 : sums K H0 bs (i + 1) = s1 at *
    generalize sums K H0 bs i = s0 at *
    refine T_seq ?_
    refine T_sr ?_
    refine S_mv rfl rfl rfl ?_
    refine S_val rfl rfl (Y_lenV rfl (und rfl) rfl (fun _ hs => Rd.st (by assumption) hs) (by assumption)) ?_
    refine S_val rfl rfl (Y_geq_t rfl rfl (by omega)) ?_
    refine S_nx ?_
    refine T_cond_true rfl ?_
    refine T_skip ?_
    refine X_seq ?_
    refine T_block ?_
    refine T_seq ?_
    refine T_draw (by kernel_rfl) (by kernel_rfl) rfl ?_
    refine D0_valM rfl rfl rfl (Y_loadAI 1 (und rfl) rfl rfl rfl (siz rfl) (by assumption)) ?_
    refine D0_val rfl rfl rfl (Y_move rfl) ?_
    refine D0_val rfl rfl rfl (Y_sliceHiV (und rfl) (siz rfl) rfl rfl (fun _ hs => Rd.st (by assumption) hs) (nat_lit' _) (by assumption)) ?_
    refine D0_callV rfl rfl (bod rfl) (fun w hs => bl2 _ (Rd.st hg hs) (Rd.st hut hs)) rfl rfl ?_
    refine D0_storeAI 1 rfl (siz rfl) rfl rfl rfl (by assumption) (by assumption) rfl ?_
    refine D0_nil ?_
    refine X_seq ?_
    refine T_region ?_
    refine S_mv rfl rfl rfl ?_
    refine S_val rfl rfl (Y_sliceLoV (und rfl) (siz rfl) rfl rfl (fun _ hs => Rd.st (by assumption) hs) (nat_lit' _) (by assumption)) ?_
    refine S_as rfl rfl rfl ?_
    refine S_nil ?_
    refine X_blk ?_
    refine X_loop ?_
    exact ⟨(i + 1, vDrop 64 u), ⟨by (try dsimp only); omega, hud⟩, by (try dsimp only); omega, (by repeat (first | exact Env.sub_nil _ | (apply Env.sub_cons; rfl))), [], by (try dsimp only); rw [hx1]; rfl⟩
  · obtain rfl : i = bs.length / 64 := by omega
    obtain ⟨k, hk⟩ : ∃ k, k = bs.length % 64 := ⟨_, rfl⟩
    have hk2 : k = bs.length - 64 * (bs.length / 64) := by omega
    have hrl : (bs.drop (64 * (bs.length / 64))).length = k := by rw [List.length_drop, hk2]
    rw [← hk2] at hul
    have hmin : min (byl (bs.drop (64 * (bs.length / 64)))).length 128 = k := by rw [hul]; omega
    have hk64 : k < 64 := by omega
    have e1 : (List.replicate 128 (0 : Int)).take 0 ++ (byl (bs.drop (64 * (bs.length / 64)))).take k ++ (List.replicate 128 0).drop (0 + k) = byl ((bs.drop (64 * (bs.length / 64))) ++ (List.replicate 128 0).drop (bs.drop (64 * (bs.length / 64))).length) := by
      rw [List.take_zero, List.nil_append, List.take_of_length_le (by rw [hul]; omega), ← byl_append, hrl, ← byl_drop (List.replicate 128 0) k, byl_zero, Nat.zero_add]
    have e2 : (byl ((bs.drop (64 * (bs.length / 64))) ++ (List.replicate 128 0).drop (bs.drop (64 * (bs.length / 64))).length)).set k 128 = byl (lastA (bs.drop (64 * (bs.length / 64)))) := by
      unfold lastA
      rw [hrl]
      exact byl_set _ _ 128#8
    have hXl : ((bs.drop (64 * (bs.length / 64))) ++ (List.replicate 128 0).drop (bs.drop (64 * (bs.length / 64))).length).length = 128 := by
      rw [hrl, List.length_append, hrl, List.length_drop, List.length_replicate]
      omega
    have hAl := lastA_length (r := bs.drop (64 * (bs.length / 64))) (by omega)
    have hnb : bs.length * 8 < 18446744073709551616 := by omega
    rw [← hk]
    generalize bs.length * 8 = n8 at *
    generalize sums K H0 bs (bs.length / 64) = s0 at *
    generalize lastA (bs.drop (64 * (bs.length / 64))) = A at *
    generalize (bs.drop (64 * (bs.length / 64))) ++ (List.replicate 128 0).drop (bs.drop (64 * (bs.length / 64))).length = X at *
    generalize bs.drop (64 * (bs.length / 64)) = r at *
    generalize bs.length / 64 = nb at *
    have hend : (56 ≤ k ∧ endN k = 128) ∨ (¬ 56 ≤ k ∧ endN k = 64) := by
      unfold endN
      split
      · exact .inl ⟨by assumption, rfl⟩
      · exact .inr ⟨by assumption, rfl⟩
    have h128 : (List.replicate 128 (0 : Int)).length = 128 := List.length_replicate
    rcases hend with ⟨h56, he⟩ | ⟨h56, he⟩
    · rw [he]
      refine T_seq ?_
      refine T_sr ?_
      refine S_mv rfl rfl rfl ?_
      refine S_val rfl rfl (Y_lenV rfl (und rfl) rfl (fun _ hs => Rd.st (by assumption) hs) (by assumption)) ?_
      refine S_val rfl rfl (Y_geq_f rfl rfl (by omega)) ?_
      refine S_nx ?_
      refine T_cond_false rfl ?_
      refine T_exit ?_
      refine X_seq_exit ?_
      refine X_loop_exit ?_
      refine X_blk_hit rfl ?_
      refine X_seq ?_
      refine T_sr ?_
      refine S_allocA (zer rfl) rfl rfl fun _ => ?_
      refine S_nx ?_
      refine T_sr ?_
      refine S_val rfl rfl (Y_sliceArr (und rfl) (siz rfl) rfl) ?_
      refine S_mv rfl rfl rfl ?_
      rename_i b3
      refine S_copyB 2 rfl (und rfl) (siz rfl) rfl rfl rfl (fun _ hs => Rd.st hu hs) hmin (by rw [h128]; omega) rfl rfl ?_
      rw [e1]
      refine S_as rfl rfl rfl ?_
      refine S_nx ?_
      refine T_sr ?_
      refine S_mv rfl rfl rfl ?_
      refine S_val rfl rfl (Y_ixa (und rfl) (siz rfl) rfl rfl (nat_cast _) (by omega)) ?_
      refine S_storeI 2 (siz rfl) rfl rfl rfl (by simp; omega) rfl rfl ?_
      refine S_nx ?_
      refine T_sr ?_
      refine S_as rfl rfl rfl ?_
      refine S_nx ?_
      refine T_seq ?_
      refine T_sr ?_
      refine S_mv rfl rfl rfl ?_
      refine S_val rfl rfl (Y_geq_t rfl rfl (by omega)) ?_
      refine S_nx ?_
      refine T_cond_true rfl ?_
      refine T_region ?_
      refine S_as rfl rfl rfl ?_
      refine S_nx ?_
      refine T_seq ?_
      refine T_sr ?_
      refine S_mv rfl rfl rfl ?_
      refine S_nx ?_
      refine T_block ?_
      refine T_loop (α := Nat) (fun i => i ≤ 8)
        (fun i => [(2, .pointer (some ⟨b1, 0, none⟩)), (3, .pointer (some ⟨b2, 0, none⟩)), (4, .int .u64 (n8 : Nat)), (5, .pointer (some ⟨b3, 0, none⟩)), (7, .int .i64 (128 : Nat)), (33, .int .i64 i)])
        (fun i => [blk b1 (.cells (ints .u8 (List.replicate 32 0)) 34 (0, 0)), blk b2 (.cells (ints .u32 (bvl s0)) 46 (0, 0)), blk b3 (.cells (ints .u8 (byl (lastB A 128 n8 i))) 48 (0, 0))])
        (fun i => 8 - i) 0 (by omega) (by repeat (first | exact Env.sub_nil _ | (apply Env.sub_cons; rfl))) [] (by rw [lastB_zero, ← e2]; rfl) ?_
      intro i hi
      have hBl : (lastB A 128 n8 i).length = 128 := by rw [lastB_length, hAl]
      by_cases h8 : i < 8
      · have hset : (byl (lastB A 128 n8 i)).set (128 - 1 - i) ((n8 / 2 ^ (8 * i) % 256 : Nat) : Int) = byl (lastB A 128 n8 (i + 1)) := by
          rw [lastB_succ, ← byl_set, BitVec.toNat_ofNat]
        generalize lastB A 128 n8 i = B at *
        refine T_sr ?_
        refine S_val rfl rfl (Y_lss_t rfl rfl (by omega)) ?_
        refine S_nx ?_
        refine T_seq ?_
        refine T_cond_true rfl ?_
        refine T_skip ?_
        refine X_seq ?_
        refine T_seq ?_
        refine T_block ?_
        refine T_sr ?_
        refine S_mv rfl rfl rfl ?_
        refine S_as rfl rfl rfl ?_
        refine S_nx ?_
        refine T_region ?_
        refine S_mv rfl rfl rfl ?_
        refine S_val rfl rfl (Y_subN rfl rfl (nat_cast _) (nat_lit' _) (Nat.le_of_ble_eq_true rfl) (Nat.le_of_ble_eq_true rfl)) ?_
        refine S_mv rfl rfl rfl ?_
        refine S_val rfl rfl (Y_subN rfl rfl (nat_cast _) (nat_cast _) (by omega) (Nat.le_of_ble_eq_true rfl)) ?_
        refine S_mv rfl rfl rfl ?_
        refine S_mv rfl rfl rfl ?_
        refine S_val rfl rfl (Y_mulN rfl rfl (nat_lit' _) (nat_cast _) (by omega)) ?_
        refine S_val rfl rfl (Y_shrN rfl rfl (nat_cast _) (nat_cast _) (by simp only [IntKind.bits]; assumption)) ?_
        refine S_val rfl rfl (Y_conv (und rfl) (und rfl) rfl wu8n) ?_
        refine S_val rfl rfl (Y_ixa (und rfl) (siz rfl) rfl rfl (nat_cast _) (by omega)) ?_
        refine S_storeI 2 (siz rfl) rfl rfl rfl (by simp; omega) rfl rfl ?_
        refine S_nil ?_
        refine X_blk ?_
        refine X_seq ?_
        refine T_region ?_
        refine S_val rfl rfl (Y_addN rfl rfl (nat_cast _) (nat_lit' _) (by omega)) ?_
        refine S_mv rfl rfl rfl ?_
        refine S_nil ?_
        refine X_loop ?_
        exact ⟨i + 1, by omega, by omega, (by repeat (first | exact Env.sub_nil _ | (apply Env.sub_cons; rfl))), [], by (try dsimp only); rw [← hset]; rfl⟩
      · obtain rfl : i = 8 := by omega
        generalize lastB A 128 n8 8 = B at *
        refine T_sr ?_
        refine S_val rfl rfl (Y_lss_f rfl rfl (by decide)) ?_
        refine S_nx ?_
        refine T_seq ?_
        refine T_cond_false rfl ?_
        refine T_exit ?_
        refine X_seq_exit ?_
        refine X_loop_exit ?_
        refine X_blk_hit rfl ?_
        refine X_seq ?_
        refine T_seq ?_
        refine T_sr ?_
        refine S_as rfl rfl rfl ?_
        refine S_nx ?_
        refine T_block ?_
        refine T_loop (α := Nat) (fun j => 64 * j ≤ 128)
          (fun j => [(2, .pointer (some ⟨b1, 0, none⟩)), (3, .pointer (some ⟨b2, 0, none⟩)), (5, .pointer (some ⟨b3, 0, none⟩)), (7, .int .i64 (128 : Nat)), (9, .int .i64 (64 * j : Nat))])
          (fun j => [blk b1 (.cells (ints .u8 (List.replicate 32 0)) 34 (0, 0)), blk b2 (.cells (ints .u32 (bvl (sums K s0 B j))) 46 (0, 0)), blk b3 (.cells (ints .u8 (byl B)) 48 (0, 0))])
          (fun j => 128 - 64 * j) 0 (by omega) (by repeat (first | exact Env.sub_nil _ | (apply Env.sub_cons; rfl))) [] (by rw [sums_zero]; rfl) ?_
        intro j hj
        have hjl := sums_length (K := K) (bs := B) hsl j
        by_cases hj2 : 64 * j < 128
        · have hn := sums_succ K s0 B j
          have hcl : ((B.drop (64 * j)).take 64).length = 64 := by rw [List.length_take, List.length_drop]; omega
          have bl2 := fun v w hg hr => bl (sums K s0 B j) ((B.drop (64 * j)).take 64) hjl hcl v w hg hr
          rw [← hn] at bl2
          have hl8 : (bvl (sums K s0 B j)).length = 8 := by rw [bvl_length, hjl]
          have hl9 : (bvl (sums K s0 B (j + 1))).length = 8 := by rw [bvl_length, hn, blockF_length hjl]
          have hown : ∀ i p, (byl ((B.drop (64 * j)).take 64))[i]? = some p → (byl B)[64 * j + i]? = some p := fun i p hp => by
            rw [← byl_take, ← byl_drop, List.getElem?_take] at hp
            split at hp
            · rwa [List.getElem?_drop] at hp
            · cases hp
          have hown2 : (byl ((B.drop (64 * j)).take 64)).length = 64 * j + 64 - 64 * j := by rw [byl_length, hcl]; omega
          clear bl hn
          generalize hx1 : sums K s0 B (j + 1) = s1 at *
          generalize sums K s0 B j = s2 at *
          refine T_seq ?_
          refine T_sr ?_
          refine S_mv rfl rfl rfl ?_
          refine S_mv rfl rfl rfl ?_
          refine S_val rfl rfl (Y_lss_t rfl rfl (by omega)) ?_
          refine S_nx ?_
          refine T_cond_true rfl ?_
          refine T_skip ?_
          refine X_seq ?_
          refine T_seq ?_
          refine T_block ?_
          refine T_draw (by kernel_rfl) (by kernel_rfl) rfl ?_
          refine D0_valM rfl rfl rfl (Y_loadAI 1 (und rfl) rfl rfl rfl (siz rfl) (by assumption)) ?_
          refine D0_val rfl rfl rfl (Y_move rfl) ?_
          refine D0_val rfl rfl rfl (Y_move rfl) ?_
          refine D0_val rfl rfl rfl (Y_addN rfl rfl (nat_cast _) (nat_lit' _) (by omega)) ?_
          refine D0_val rfl rfl rfl (Y_sliceArrLH (und rfl) (siz rfl) rfl rfl rfl (nat_cast _) (nat_cast _) (by omega) (by omega) (by assumption)) ?_
          refine D0_callV rfl rfl (bod rfl) (fun w hs => bl2 _ _ (Rd.st hg hs) (hown2 ▸ Rd.own hs (q := 2) rfl hown (by omega))) rfl rfl ?_
          refine D0_storeAI 1 rfl (siz rfl) rfl rfl rfl (by assumption) (by assumption) rfl ?_
          refine D0_nil ?_
          refine X_blk ?_
          refine X_seq ?_
          refine T_region ?_
          refine S_mv rfl rfl rfl ?_
          refine S_val rfl rfl (Y_addN rfl rfl (nat_cast _) (nat_lit' _) (by omega)) ?_
          refine S_as rfl rfl rfl ?_
          refine S_nil ?_
          refine X_loop ?_
          exact ⟨j + 1, by (try dsimp only); omega, by (try dsimp only); omega, (by repeat (first | exact Env.sub_nil _ | (apply Env.sub_cons; rfl))), [], by (try dsimp only); rw [hx1]; rfl⟩
        · obtain rfl : j = 128 / 64 := by omega
          generalize sums K s0 B (128 / 64) = s3 at *
          refine T_seq ?_
          refine T_sr ?_
          refine S_mv rfl rfl rfl ?_
          refine S_mv rfl rfl rfl ?_
          refine S_val rfl rfl (Y_lss_f rfl rfl (by decide)) ?_
          refine S_nx ?_
          refine T_cond_false rfl ?_
          refine T_exit ?_
          refine X_seq_exit ?_
          refine X_loop_exit ?_
          refine X_blk_hit rfl ?_
          refine X_seq ?_
          refine T_sr ?_
          refine S_allocA (zer rfl) rfl rfl fun _ => ?_
          refine S_nx ?_
          refine T_seq ?_
          refine T_sr ?_
          refine S_mv rfl rfl rfl ?_
          refine S_nx ?_
          refine T_block ?_
          rename_i b4
          refine T_loop (α := Nat) (fun i => i ≤ 32)
            (fun i => [(2, .pointer (some ⟨b1, 0, none⟩)), (3, .pointer (some ⟨b2, 0, none⟩)), (10, .pointer (some ⟨b4, 0, none⟩)), (58, .int .i64 i)])
            (fun i => [blk b1 (.cells (ints .u8 (List.replicate 32 0)) 34 (0, 0)), blk b2 (.cells (ints .u32 (bvl s3)) 46 (0, 0)), blk b3 (.cells (ints .u8 (byl B)) 48 (0, 0)), blk b4 (.cells (ints .u8 (byl (outs s3 i))) 34 (0, 0))])
            (fun i => 32 - i) 0 (by omega) (by repeat (first | exact Env.sub_nil _ | (apply Env.sub_cons; rfl))) [] (by rw [outs_zero, byl_zero]; rfl) ?_
          intro i hi
          have hol := outs_length s3 i
          by_cases h32 : i < 32
          · have hq := bvl_w0 hjl (show i / 4 < 8 by omega)
            have hset : (byl (outs s3 i)).set i (((((w0 s3 (i / 4)) >>> (24 - i % 4 * 8)).setWidth 8).toNat : Nat) : Int) = byl (outs s3 (i + 1)) := by
              rw [outs_succ, ← byl_set]
            generalize outs s3 i = Z at *
            generalize w0 s3 (i / 4) = z at *
            refine T_sr ?_
            refine S_val rfl rfl (Y_lss_t rfl rfl (by omega)) ?_
            refine S_nx ?_
            refine T_seq ?_
            refine T_cond_true rfl ?_
            refine T_skip ?_
            refine X_seq ?_
            refine T_seq ?_
            refine T_block ?_
            refine T_sr ?_
            refine S_mv rfl rfl rfl ?_
            refine S_as rfl rfl rfl ?_
            refine S_nx ?_
            refine T_region ?_
            refine S_mv rfl rfl rfl ?_
            refine S_mv rfl rfl rfl ?_
            refine S_val rfl rfl (Y_quoN rfl rfl (nat_cast _) (nat_lit' _) (Nat.succ_ne_zero _) (by first | with_reducible exact xi64 (by omega) | with_reducible exact x64 (by omega) | with_reducible exact x8 (by omega) | with_reducible exact x32 (by omega))) ?_
            refine S_val rfl rfl (Y_ixa (und rfl) (siz rfl) rfl rfl (nat_cast _) (by omega)) ?_
            refine S_val rfl rfl (Y_loadI 1 (und rfl) rfl rfl rfl (by assumption)) ?_
            refine S_mv rfl rfl rfl ?_
            refine S_val rfl rfl (Y_remN rfl rfl (nat_cast _) (nat_lit' _) (Nat.succ_ne_zero _)) ?_
            refine S_val rfl rfl (Y_mulN rfl rfl (nat_cast _) (nat_lit' _) (by omega)) ?_
            refine S_val rfl rfl (Y_subN rfl rfl (nat_lit' _) (nat_cast _) (by omega) (Nat.le_of_ble_eq_true rfl)) ?_
            refine S_val rfl rfl (Y_bshr rfl rfl (nat_cast _)) ?_
            refine S_val rfl rfl (Y_bcut (und rfl) (und rfl) rfl) ?_
            refine S_val rfl rfl (Y_ixa (und rfl) (siz rfl) rfl rfl (nat_cast _) (by assumption)) ?_
            refine S_storeI 3 (siz rfl) rfl rfl rfl (by simp; omega) rfl rfl ?_
            refine S_nil ?_
            refine X_blk ?_
            refine X_seq ?_
            refine T_region ?_
            refine S_val rfl rfl (Y_addN rfl rfl (nat_cast _) (nat_lit' _) (by omega)) ?_
            refine S_mv rfl rfl rfl ?_
            refine S_nil ?_
            refine X_loop ?_
            exact ⟨i + 1, by omega, by omega, (by repeat (first | exact Env.sub_nil _ | (apply Env.sub_cons; rfl))), [], by (try dsimp only); rw [← hset]; rfl⟩
          · obtain rfl : i = 32 := by omega
            generalize outs s3 32 = Z at *
            have hz : (byl Z).length = 32 := by rw [byl_length, hol]
            have hz0 : (List.replicate 32 (0 : Int)).length = 32 := List.length_replicate
            refine T_sr ?_
            refine S_val rfl rfl (Y_lss_f rfl rfl (by decide)) ?_
            refine S_nx ?_
            refine T_seq ?_
            refine T_cond_false rfl ?_
            refine T_exit ?_
            refine X_seq_exit ?_
            refine X_loop_exit ?_
            refine X_blk_hit rfl ?_
            refine X_seq ?_
            refine T_sr ?_
            refine S_val rfl rfl (Y_loadAI 3 (und rfl) rfl rfl rfl (siz rfl) (by assumption)) ?_
            refine S_storeAI 0 (siz rfl) rfl rfl rfl rfl (by assumption) rfl ?_
            refine S_nx ?_
            refine T_ret ?_
            ((first | refine X_fin_ret ?_ | refine X_fin ?_); exact ⟨[_], [], .cons (.agg 0 rfl (und rfl) rfl rfl (by rw [ints_size, hz]; exact siz rfl)) .nil, Emb.nil _, rfl, rfl⟩)
    · rw [he]
      refine T_seq ?_
      refine T_sr ?_
      refine S_mv rfl rfl rfl ?_
      refine S_val rfl rfl (Y_lenV rfl (und rfl) rfl (fun _ hs => Rd.st (by assumption) hs) (by assumption)) ?_
      refine S_val rfl rfl (Y_geq_f rfl rfl (by omega)) ?_
      refine S_nx ?_
      refine T_cond_false rfl ?_
      refine T_exit ?_
      refine X_seq_exit ?_
      refine X_loop_exit ?_
      refine X_blk_hit rfl ?_
      refine X_seq ?_
      refine T_sr ?_
      refine S_allocA (zer rfl) rfl rfl fun _ => ?_
      refine S_nx ?_
      refine T_sr ?_
      refine S_val rfl rfl (Y_sliceArr (und rfl) (siz rfl) rfl) ?_
      refine S_mv rfl rfl rfl ?_
      rename_i b3
      refine S_copyB 2 rfl (und rfl) (siz rfl) rfl rfl rfl (fun _ hs => Rd.st hu hs) hmin (by rw [h128]; omega) rfl rfl ?_
      rw [e1]
      refine S_as rfl rfl rfl ?_
      refine S_nx ?_
      refine T_sr ?_
      refine S_mv rfl rfl rfl ?_
      refine S_val rfl rfl (Y_ixa (und rfl) (siz rfl) rfl rfl (nat_cast _) (by omega)) ?_
      refine S_storeI 2 (siz rfl) rfl rfl rfl (by simp; omega) rfl rfl ?_
      refine S_nx ?_
      refine T_sr ?_
      refine S_as rfl rfl rfl ?_
      refine S_nx ?_
      refine T_seq ?_
      refine T_sr ?_
      refine S_mv rfl rfl rfl ?_
      refine S_val rfl rfl (Y_geq_f rfl rfl (by omega)) ?_
      refine S_nx ?_
      refine T_cond_false rfl ?_
      refine T_skip ?_
      refine X_seq ?_
      refine T_seq ?_
      refine T_sr ?_
      refine S_mv rfl rfl rfl ?_
      refine S_nx ?_
      refine T_block ?_
      refine T_loop (α := Nat) (fun i => i ≤ 8)
        (fun i => [(2, .pointer (some ⟨b1, 0, none⟩)), (3, .pointer (some ⟨b2, 0, none⟩)), (4, .int .u64 (n8 : Nat)), (5, .pointer (some ⟨b3, 0, none⟩)), (7, .int .i64 (64 : Nat)), (33, .int .i64 i)])
        (fun i => [blk b1 (.cells (ints .u8 (List.replicate 32 0)) 34 (0, 0)), blk b2 (.cells (ints .u32 (bvl s0)) 46 (0, 0)), blk b3 (.cells (ints .u8 (byl (lastB A 64 n8 i))) 48 (0, 0))])
        (fun i => 8 - i) 0 (by omega) (by repeat (first | exact Env.sub_nil _ | (apply Env.sub_cons; rfl))) [] (by rw [lastB_zero, ← e2]; rfl) ?_
      intro i hi
      have hBl : (lastB A 64 n8 i).length = 128 := by rw [lastB_length, hAl]
      by_cases h8 : i < 8
      · have hset : (byl (lastB A 64 n8 i)).set (64 - 1 - i) ((n8 / 2 ^ (8 * i) % 256 : Nat) : Int) = byl (lastB A 64 n8 (i + 1)) := by
          rw [lastB_succ, ← byl_set, BitVec.toNat_ofNat]
        generalize lastB A 64 n8 i = B at *
        refine T_sr ?_
        refine S_val rfl rfl (Y_lss_t rfl rfl (by omega)) ?_
        refine S_nx ?_
        refine T_seq ?_
        refine T_cond_true rfl ?_
        refine T_skip ?_
        refine X_seq ?_
        refine T_seq ?_
        refine T_block ?_
        refine T_sr ?_
        refine S_mv rfl rfl rfl ?_
        refine S_as rfl rfl rfl ?_
        refine S_nx ?_
        refine T_region ?_
        refine S_mv rfl rfl rfl ?_
        refine S_val rfl rfl (Y_subN rfl rfl (nat_cast _) (nat_lit' _) (Nat.le_of_ble_eq_true rfl) (Nat.le_of_ble_eq_true rfl)) ?_
        refine S_mv rfl rfl rfl ?_
        refine S_val rfl rfl (Y_subN rfl rfl (nat_cast _) (nat_cast _) (by omega) (Nat.le_of_ble_eq_true rfl)) ?_
        refine S_mv rfl rfl rfl ?_
        refine S_mv rfl rfl rfl ?_
        refine S_val rfl rfl (Y_mulN rfl rfl (nat_lit' _) (nat_cast _) (by omega)) ?_
        refine S_val rfl rfl (Y_shrN rfl rfl (nat_cast _) (nat_cast _) (by simp only [IntKind.bits]; assumption)) ?_
        refine S_val rfl rfl (Y_conv (und rfl) (und rfl) rfl wu8n) ?_
        refine S_val rfl rfl (Y_ixa (und rfl) (siz rfl) rfl rfl (nat_cast _) (by omega)) ?_
        refine S_storeI 2 (siz rfl) rfl rfl rfl (by simp; omega) rfl rfl ?_
        refine S_nil ?_
        refine X_blk ?_
        refine X_seq ?_
        refine T_region ?_
        refine S_val rfl rfl (Y_addN rfl rfl (nat_cast _) (nat_lit' _) (by omega)) ?_
        refine S_mv rfl rfl rfl ?_
        refine S_nil ?_
        refine X_loop ?_
        exact ⟨i + 1, by omega, by omega, (by repeat (first | exact Env.sub_nil _ | (apply Env.sub_cons; rfl))), [], by (try dsimp only); rw [← hset]; rfl⟩
      · obtain rfl : i = 8 := by omega
        generalize lastB A 64 n8 8 = B at *
        refine T_sr ?_
        refine S_val rfl rfl (Y_lss_f rfl rfl (by decide)) ?_
        refine S_nx ?_
        refine T_seq ?_
        refine T_cond_false rfl ?_
        refine T_exit ?_
        refine X_seq_exit ?_
        refine X_loop_exit ?_
        refine X_blk_hit rfl ?_
        refine X_seq ?_
        refine T_seq ?_
        refine T_sr ?_
        refine S_as rfl rfl rfl ?_
        refine S_nx ?_
        refine T_block ?_
        refine T_loop (α := Nat) (fun j => 64 * j ≤ 64)
          (fun j => [(2, .pointer (some ⟨b1, 0, none⟩)), (3, .pointer (some ⟨b2, 0, none⟩)), (5, .pointer (some ⟨b3, 0, none⟩)), (7, .int .i64 (64 : Nat)), (9, .int .i64 (64 * j : Nat))])
          (fun j => [blk b1 (.cells (ints .u8 (List.replicate 32 0)) 34 (0, 0)), blk b2 (.cells (ints .u32 (bvl (sums K s0 B j))) 46 (0, 0)), blk b3 (.cells (ints .u8 (byl B)) 48 (0, 0))])
          (fun j => 64 - 64 * j) 0 (by omega) (by repeat (first | exact Env.sub_nil _ | (apply Env.sub_cons; rfl))) [] (by rw [sums_zero]; rfl) ?_
        intro j hj
        have hjl := sums_length (K := K) (bs := B) hsl j
        by_cases hj2 : 64 * j < 64
        · have hn := sums_succ K s0 B j
          have hcl : ((B.drop (64 * j)).take 64).length = 64 := by rw [List.length_take, List.length_drop]; omega
          have bl2 := fun v w hg hr => bl (sums K s0 B j) ((B.drop (64 * j)).take 64) hjl hcl v w hg hr
          rw [← hn] at bl2
          have hl8 : (bvl (sums K s0 B j)).length = 8 := by rw [bvl_length, hjl]
          have hl9 : (bvl (sums K s0 B (j + 1))).length = 8 := by rw [bvl_length, hn, blockF_length hjl]
          have hown : ∀ i p, (byl ((B.drop (64 * j)).take 64))[i]? = some p → (byl B)[64 * j + i]? = some p := fun i p hp => by
            rw [← byl_take, ← byl_drop, List.getElem?_take] at hp
            split at hp
            · rwa [List.getElem?_drop] at hp
            · cases hp
          have hown2 : (byl ((B.drop (64 * j)).take 64)).length = 64 * j + 64 - 64 * j := by rw [byl_length, hcl]; omega
          clear bl hn
          generalize hx1 : sums K s0 B (j + 1) = s1 at *
          generalize sums K s0 B j = s2 at *
          refine T_seq ?_
          refine T_sr ?_
          refine S_mv rfl rfl rfl ?_
          refine S_mv rfl rfl rfl ?_
          refine S_val rfl rfl (Y_lss_t rfl rfl (by omega)) ?_
          refine S_nx ?_
          refine T_cond_true rfl ?_
          refine T_skip ?_
          refine X_seq ?_
          refine T_seq ?_
          refine T_block ?_
          refine T_draw (by kernel_rfl) (by kernel_rfl) rfl ?_
          refine D0_valM rfl rfl rfl (Y_loadAI 1 (und rfl) rfl rfl rfl (siz rfl) (by assumption)) ?_
          refine D0_val rfl rfl rfl (Y_move rfl) ?_
          refine D0_val rfl rfl rfl (Y_move rfl) ?_
          refine D0_val rfl rfl rfl (Y_addN rfl rfl (nat_cast _) (nat_lit' _) (by omega)) ?_
          refine D0_val rfl rfl rfl (Y_sliceArrLH (und rfl) (siz rfl) rfl rfl rfl (nat_cast _) (nat_cast _) (by omega) (by omega) (by omega)) ?_
          refine D0_callV rfl rfl (bod rfl) (fun w hs => bl2 _ _ (Rd.st hg hs) (hown2 ▸ Rd.own hs (q := 2) rfl hown (by omega))) rfl rfl ?_
          refine D0_storeAI 1 rfl (siz rfl) rfl rfl rfl (by assumption) (by assumption) rfl ?_
          refine D0_nil ?_
          refine X_blk ?_
          refine X_seq ?_
          refine T_region ?_
          refine S_mv rfl rfl rfl ?_
          refine S_val rfl rfl (Y_addN rfl rfl (nat_cast _) (nat_lit' _) (by omega)) ?_
          refine S_as rfl rfl rfl ?_
          refine S_nil ?_
          refine X_loop ?_
          exact ⟨j + 1, by (try dsimp only); omega, by (try dsimp only); omega, (by repeat (first | exact Env.sub_nil _ | (apply Env.sub_cons; rfl))), [], by (try dsimp only); rw [hx1]; rfl⟩
        · obtain rfl : j = 64 / 64 := by omega
          generalize sums K s0 B (64 / 64) = s3 at *
          refine T_seq ?_
          refine T_sr ?_
          refine S_mv rfl rfl rfl ?_
          refine S_mv rfl rfl rfl ?_
          refine S_val rfl rfl (Y_lss_f rfl rfl (by decide)) ?_
          refine S_nx ?_
          refine T_cond_false rfl ?_
          refine T_exit ?_
          refine X_seq_exit ?_
          refine X_loop_exit ?_
          refine X_blk_hit rfl ?_
          refine X_seq ?_
          refine T_sr ?_
          refine S_allocA (zer rfl) rfl rfl fun _ => ?_
          refine S_nx ?_
          refine T_seq ?_
          refine T_sr ?_
          refine S_mv rfl rfl rfl ?_
          refine S_nx ?_
          refine T_block ?_
          rename_i b4
          refine T_loop (α := Nat) (fun i => i ≤ 32)
            (fun i => [(2, .pointer (some ⟨b1, 0, none⟩)), (3, .pointer (some ⟨b2, 0, none⟩)), (10, .pointer (some ⟨b4, 0, none⟩)), (58, .int .i64 i)])
            (fun i => [blk b1 (.cells (ints .u8 (List.replicate 32 0)) 34 (0, 0)), blk b2 (.cells (ints .u32 (bvl s3)) 46 (0, 0)), blk b3 (.cells (ints .u8 (byl B)) 48 (0, 0)), blk b4 (.cells (ints .u8 (byl (outs s3 i))) 34 (0, 0))])
            (fun i => 32 - i) 0 (by omega) (by repeat (first | exact Env.sub_nil _ | (apply Env.sub_cons; rfl))) [] (by rw [outs_zero, byl_zero]; rfl) ?_
          intro i hi
          have hol := outs_length s3 i
          by_cases h32 : i < 32
          · have hq := bvl_w0 hjl (show i / 4 < 8 by omega)
            have hset : (byl (outs s3 i)).set i (((((w0 s3 (i / 4)) >>> (24 - i % 4 * 8)).setWidth 8).toNat : Nat) : Int) = byl (outs s3 (i + 1)) := by
              rw [outs_succ, ← byl_set]
            generalize outs s3 i = Z at *
            generalize w0 s3 (i / 4) = z at *
            refine T_sr ?_
            refine S_val rfl rfl (Y_lss_t rfl rfl (by omega)) ?_
            refine S_nx ?_
            refine T_seq ?_
            refine T_cond_true rfl ?_
            refine T_skip ?_
            refine X_seq ?_
            refine T_seq ?_
            refine T_block ?_
            refine T_sr ?_
            refine S_mv rfl rfl rfl ?_
            refine S_as rfl rfl rfl ?_
            refine S_nx ?_
            refine T_region ?_
            refine S_mv rfl rfl rfl ?_
            refine S_mv rfl rfl rfl ?_
            refine S_val rfl rfl (Y_quoN rfl rfl (nat_cast _) (nat_lit' _) (Nat.succ_ne_zero _) (by first | with_reducible exact xi64 (by omega) | with_reducible exact x64 (by omega) | with_reducible exact x8 (by omega) | with_reducible exact x32 (by omega))) ?_
            refine S_val rfl rfl (Y_ixa (und rfl) (siz rfl) rfl rfl (nat_cast _) (by omega)) ?_
            refine S_val rfl rfl (Y_loadI 1 (und rfl) rfl rfl rfl (by assumption)) ?_
            refine S_mv rfl rfl rfl ?_
            refine S_val rfl rfl (Y_remN rfl rfl (nat_cast _) (nat_lit' _) (Nat.succ_ne_zero _)) ?_
            refine S_val rfl rfl (Y_mulN rfl rfl (nat_cast _) (nat_lit' _) (by omega)) ?_
            refine S_val rfl rfl (Y_subN rfl rfl (nat_lit' _) (nat_cast _) (by omega) (Nat.le_of_ble_eq_true rfl)) ?_
            refine S_val rfl rfl (Y_bshr rfl rfl (nat_cast _)) ?_
            refine S_val rfl rfl (Y_bcut (und rfl) (und rfl) rfl) ?_
            refine S_val rfl rfl (Y_ixa (und rfl) (siz rfl) rfl rfl (nat_cast _) (by assumption)) ?_
            refine S_storeI 3 (siz rfl) rfl rfl rfl (by simp; omega) rfl rfl ?_
            refine S_nil ?_
            refine X_blk ?_
            refine X_seq ?_
            refine T_region ?_
            refine S_val rfl rfl (Y_addN rfl rfl (nat_cast _) (nat_lit' _) (by omega)) ?_
            refine S_mv rfl rfl rfl ?_
            refine S_nil ?_
            refine X_loop ?_
            exact ⟨i + 1, by omega, by omega, (by repeat (first | exact Env.sub_nil _ | (apply Env.sub_cons; rfl))), [], by (try dsimp only); rw [← hset]; rfl⟩
          · obtain rfl : i = 32 := by omega
            generalize outs s3 32 = Z at *
            have hz : (byl Z).length = 32 := by rw [byl_length, hol]
            have hz0 : (List.replicate 32 (0 : Int)).length = 32 := List.length_replicate
            refine T_sr ?_
            refine S_val rfl rfl (Y_lss_f rfl rfl (by decide)) ?_
            refine S_nx ?_
            refine T_seq ?_
            refine T_cond_false rfl ?_
            refine T_exit ?_
            refine X_seq_exit ?_
            refine X_loop_exit ?_
            refine X_blk_hit rfl ?_
            refine X_seq ?_
            refine T_sr ?_
            refine S_val rfl rfl (Y_loadAI 3 (und rfl) rfl rfl rfl (siz rfl) (by assumption)) ?_
            refine S_storeAI 0 (siz rfl) rfl rfl rfl rfl (by assumption) rfl ?_
            refine S_nx ?_
            refine T_ret ?_
            ((first | refine X_fin_ret ?_ | refine X_fin ?_); exact ⟨[_], [], .cons (.agg 0 rfl (und rfl) rfl rfl (by rw [ints_size, hz]; exact siz rfl)) .nil, Emb.nil _, rfl, rfl⟩)
end Go.Proofs.YtjolmphkmfbpbaaDoor
/- The reference of layer 6: the constants are the roots of the first primes. -/
namespace Go.Proofs.YtjolmphkmfbpbaaDoor
open Go.RowKit
def rgo (p : Nat) (cube : Bool) : Nat → Nat → Nat → Nat
  | 0, _, n => n
  | f + 1, k, n => rgo p cube f (k + 1) (if belowN (n + rbit k) p cube then n + rbit k else n)
theorem rgo_rt (p : Nat) (cube : Bool) : ∀ f k, rgo p cube f k (rt p cube k) = rt p cube (k + f)
  | 0, k => by rw [rgo]; rfl
  | f + 1, k => by
    rw [rgo, ← rt_succ, rgo_rt p cube f (k + 1), show k + 1 + f = k + (f + 1) by omega]
theorem rt_go (p : Nat) (cube : Bool) : rt p cube 37 = rgo p cube 37 0 0 := by
  have h := rgo_rt p cube 37 0
  rw [rt_zero, Nat.zero_add] at h
  exact h.symm
/-- The first primes. -/
def primes64 : List Nat := [2, 3, 5, 7, 11, 13, 17, 19, 23, 29, 31, 37, 41, 43, 47, 53, 59, 61, 67, 71, 73, 79, 83, 89, 97, 101, 103, 107, 109, 113, 127, 131, 137, 139, 149, 151, 157, 163, 167, 173, 179, 181, 191, 193, 197, 199, 211, 223, 227, 229, 233, 239, 241, 251, 257, 263, 269, 271, 277, 281, 283, 293, 307, 311]
theorem primes64_length : primes64.length = 64 := rfl
theorem KL_roots : primes64.map (fun p => BitVec.ofNat 32 (rt p true 37 % 4294967296)) = KL := by
  simp only [rt_go]
  decide +kernel
theorem H0_roots : (primes64.take 8).map (fun p => BitVec.ofNat 32 (rt p false 37 % 4294967296)) = H0 := by
  simp only [rt_go]
  decide +kernel
end Go.Proofs.YtjolmphkmfbpbaaDoor
/- The reference of layer 6: the first primes. -/
namespace Go.Proofs.YtjolmphkmfbpbaaDoor
open Go.RowKit
set_option maxRecDepth 20000
set_option maxHeartbeats 40000000
def nl (l : List Nat) : List Int := l.map fun (x : Nat) => (x : Int)
@[simp] theorem nl_length (l : List Nat) : (nl l).length = l.length := List.length_map _
def bAt (p d : Nat) : Bool := (List.range d).all fun e => decide (e < 2) || decide (p % e ≠ 0)
theorem bAt_succ (p d : Nat) : bAt p (d + 1) = (bAt p d && (decide (d < 2) || decide (p % d ≠ 0))) := by
  unfold bAt
  rw [List.range_succ, List.all_append]
  simp
def prOut (p : Nat) : List Nat := primes64.filter fun x => decide (x < p)
theorem pr1 : ∀ p < 312, 2 ≤ p → ∀ d < 20, 2 ≤ d → p < d * d → (d = 2 ∨ (d - 1) * (d - 1) ≤ p) → bAt p d = primes64.contains p := by
  have h : ((List.range 312).all fun p => (List.range 20).all fun d => !(decide (2 ≤ p)) || !(decide (2 ≤ d)) || !(decide (p < d * d)) || !(decide (d = 2 ∨ (d - 1) * (d - 1) ≤ p)) || (bAt p d == primes64.contains p)) = true := by decide +kernel
  intro p hp h1 d hd h2 h3 h4
  have h5 := List.all_eq_true.1 (List.all_eq_true.1 h p (List.mem_range.2 hp)) d (List.mem_range.2 hd)
  rw [decide_eq_true h1, decide_eq_true h2, decide_eq_true h3, decide_eq_true h4] at h5
  simpa using h5
theorem pr2 : ∀ p < 312, prOut (p + 1) = if primes64.contains p then prOut p ++ [p] else prOut p := by decide +kernel
theorem pr3 : ∀ p < 312, (prOut p).length < 64 := by decide +kernel
theorem pr4 : prOut 312 = primes64 := by decide +kernel
theorem primes06_any (w : World) : Fn Tryd.prog 50 #[.int .i64 64] w fun u N => N = [row .u64 (nl primes64) u] := by
  refine Fn_of (args := [.int .i64 64]) Tryd.func50 rfl Tryd.ntmps50 Tryd.results50 (by simp) ?_
  refine T_sr ?_
  refine S_as rfl rfl rfl ?_
  refine S_nx ?_
  refine T_sr ?_
  refine S_sliceR (und rfl) (siz rfl) (zer rfl) rfl rfl rfl rfl fun _ => ?_
  refine S_as rfl rfl rfl ?_
  refine S_nx ?_
  refine T_seq ?_
  refine T_sr ?_
  refine S_as rfl rfl rfl ?_
  refine S_nx ?_
  refine T_block ?_
  rename_i v0
  refine T_loopE (α := Nat × Value) (fun a => 2 ≤ a.1 ∧ a.1 ≤ 312)
    (fun a => [(0, .int .i64 64), (3, a.2), (4, .int .u64 (a.1 : Nat))])
    (fun a => [row .u64 (nl (prOut a.1)) a.2])
    (fun a => 312 - a.1) (2, v0) (by dsimp only; omega) (by repeat (first | exact Env.sub_nil _ | (apply Env.sub_cons; rfl))) (Emb.idx [0] rfl rfl) ?_
  rintro ⟨p, u⟩ ⟨hp2, hp⟩
  dsimp only at hp2 hp ⊢
  by_cases h : p < 312
  · have hlen := pr3 p h
    have h2 := pr2 p h
    have h1 := pr1 p h hp2
    have hnl : (nl (prOut p)).length = (prOut p).length := nl_length _
    have hb2 : bAt p 2 = true := rfl
    generalize hq : prOut (p + 1) = l2 at *
    generalize prOut p = l at *
    refine T_seq ?_
    refine T_sr ?_
    refine S_mv rfl rfl rfl ?_
    refine S_val rfl rfl (Y_lenV rfl (und rfl) rfl (fun _ hs => hs.rowRd 0 rfl) (by assumption)) ?_
    refine S_mv rfl rfl rfl ?_
    refine S_val rfl rfl (Y_lss_t rfl rfl (by omega)) ?_
    refine S_nx ?_
    refine T_cond_true rfl ?_
    refine T_skip ?_
    refine X_seq ?_
    refine T_seq ?_
    refine T_block ?_
    refine T_sr ?_
    refine S_as rfl rfl rfl ?_
    refine S_nx ?_
    refine T_seq ?_
    refine T_sr ?_
    refine S_as rfl rfl rfl ?_
    refine S_nx ?_
    refine T_block ?_
    refine T_loop (α := Nat) (fun d => 2 ≤ d ∧ d < 20 ∧ (d = 2 ∨ (d - 1) * (d - 1) ≤ p))
      (fun d => [(0, .int .i64 64), (3, u), (4, .int .u64 (p : Nat)), (5, .bool (bAt p d)), (6, .int .u64 (d : Nat))])
      (fun d => [row .u64 (nl l) u])
      (fun d => 20 - d) 2 (by omega) (by rw [hb2]; exact (by repeat (first | exact Env.sub_nil _ | (apply Env.sub_cons; rfl)))) [] rfl ?_
    intro d ⟨hd2, hd, hdp⟩
    have hdd : d * d < 2 ^ 64 := Nat.lt_of_le_of_lt (Nat.mul_le_mul (show d ≤ 20 by omega) (show d ≤ 20 by omega)) (by decide)
    by_cases hle : d * d ≤ p
    · have hle2 : ((d * d : Nat) : Int) ≤ ((p : Nat) : Int) := Int.ofNat_le.2 hle
      have hd18 : d < 18 := by
        rcases Nat.lt_or_ge d 18 with h | h
        · exact h
        · have := Nat.mul_le_mul h h; omega
      have hnx := bAt_succ p d
      rw [decide_eq_false (show ¬ d < 2 by omega), Bool.false_or] at hnx
      have hJ : 2 ≤ d + 1 ∧ d + 1 < 20 ∧ (d + 1 = 2 ∨ (d + 1 - 1) * (d + 1 - 1) ≤ p) := ⟨by omega, by omega, .inr hle⟩
      by_cases hm : p % d = 0
      · rw [decide_eq_false (by simpa using hm), Bool.and_false] at hnx
        have hmz : ((p % d : Nat) : Int) = 0 := by rw [hm]; rfl
        clear h1 h2 hle hdp
        generalize hb1 : bAt p (d + 1) = b1 at *
        subst hnx
        refine T_seq ?_
        refine T_sr ?_
        refine S_mv rfl rfl rfl ?_
        refine S_mv rfl rfl rfl ?_
        refine S_val rfl rfl (Y_mulU rfl rfl (nat_cast _) (nat_cast _) rfl (by simp only [IntKind.bits]; assumption)) ?_
        refine S_mv rfl rfl rfl ?_
        refine S_val rfl rfl (Y_leq_t rfl rfl (by assumption)) ?_
        refine S_nx ?_
        refine T_cond_true rfl ?_
        refine T_skip ?_
        refine X_seq ?_
        refine T_seq ?_
        refine T_block ?_
        refine T_sr ?_
        refine S_mv rfl rfl rfl ?_
        refine S_mv rfl rfl rfl ?_
        refine S_val rfl rfl (Y_remN rfl rfl (nat_cast _) (nat_cast _) (by omega)) ?_
        refine S_val rfl rfl (Y_eql_t rfl rfl (by assumption)) ?_
        refine S_nx ?_
        refine T_cond_true rfl ?_
        refine T_region ?_
        refine S_as rfl rfl rfl ?_
        refine S_nil ?_
        refine X_blk ?_
        refine X_seq ?_
        refine T_region ?_
        refine S_mv rfl rfl rfl ?_
        refine S_val rfl rfl (Y_addU rfl rfl (nat_cast _) (nat_lit' _) rfl (by simp only [IntKind.bits]; omega)) ?_
        refine S_as rfl rfl rfl ?_
        refine S_nil ?_
        refine X_loop ?_
        exact ⟨d + 1, hJ, by omega, by (try dsimp only); rw [hb1]; exact (by repeat (first | exact Env.sub_nil _ | (apply Env.sub_cons; rfl))), [], rfl⟩
      · rw [decide_eq_true hm, Bool.and_true] at hnx
        have hmz : ¬ ((p % d : Nat) : Int) = 0 := fun e => hm (by omega)
        clear h1 h2 hle hdp
        generalize hb1 : bAt p (d + 1) = b1 at *
        generalize bAt p d = b0 at *
        subst hnx
        refine T_seq ?_
        refine T_sr ?_
        refine S_mv rfl rfl rfl ?_
        refine S_mv rfl rfl rfl ?_
        refine S_val rfl rfl (Y_mulU rfl rfl (nat_cast _) (nat_cast _) rfl (by simp only [IntKind.bits]; assumption)) ?_
        refine S_mv rfl rfl rfl ?_
        refine S_val rfl rfl (Y_leq_t rfl rfl (by assumption)) ?_
        refine S_nx ?_
        refine T_cond_true rfl ?_
        refine T_skip ?_
        refine X_seq ?_
        refine T_seq ?_
        refine T_block ?_
        refine T_sr ?_
        refine S_mv rfl rfl rfl ?_
        refine S_mv rfl rfl rfl ?_
        refine S_val rfl rfl (Y_remN rfl rfl (nat_cast _) (nat_cast _) (by omega)) ?_
        refine S_val rfl rfl (Y_eql_f rfl rfl (by assumption)) ?_
        refine S_nx ?_
        refine T_cond_false rfl ?_
        refine T_skip ?_
        refine X_blk ?_
        refine X_seq ?_
        refine T_region ?_
        refine S_mv rfl rfl rfl ?_
        refine S_val rfl rfl (Y_addU rfl rfl (nat_cast _) (nat_lit' _) rfl (by simp only [IntKind.bits]; omega)) ?_
        refine S_as rfl rfl rfl ?_
        refine S_nil ?_
        refine X_loop ?_
        exact ⟨d + 1, hJ, by omega, by (try dsimp only); rw [hb1]; exact (by repeat (first | exact Env.sub_nil _ | (apply Env.sub_cons; rfl))), [], rfl⟩
    · have hle2 : ¬ ((d * d : Nat) : Int) ≤ ((p : Nat) : Int) := fun e => hle (Int.ofNat_le.1 e)
      have hb := h1 d hd hd2 (by omega) hdp
      rw [hb]
      clear h1 hb hle hdp hb2
      cases hc : primes64.contains p
      · rw [hc, if_neg (by decide)] at h2
        subst h2
        refine T_seq ?_
        refine T_sr ?_
        refine S_mv rfl rfl rfl ?_
        refine S_mv rfl rfl rfl ?_
        refine S_val rfl rfl (Y_mulU rfl rfl (nat_cast _) (nat_cast _) rfl (by simp only [IntKind.bits]; assumption)) ?_
        refine S_mv rfl rfl rfl ?_
        refine S_val rfl rfl (Y_leq_f rfl rfl (by assumption)) ?_
        refine S_nx ?_
        refine T_cond_false rfl ?_
        refine T_exit ?_
        refine X_seq_exit ?_
        refine X_loop_exit ?_
        refine X_blk_hit rfl ?_
        refine X_seq ?_
        refine T_sr ?_
        refine S_mv rfl rfl rfl ?_
        refine S_nx ?_
        refine T_cond_false rfl ?_
        refine T_skip ?_
        refine X_blk ?_
        refine X_seq ?_
        refine T_region ?_
        refine S_mv rfl rfl rfl ?_
        refine S_val rfl rfl (Y_addU rfl rfl (nat_cast _) (nat_lit' _) rfl (by simp only [IntKind.bits]; omega)) ?_
        refine S_as rfl rfl rfl ?_
        refine S_nil ?_
        refine X_loop ?_
        exact ⟨(p + 1, u), by dsimp only; omega, by dsimp only; omega, (by repeat (first | exact Env.sub_nil _ | (apply Env.sub_cons; rfl))), by dsimp only; rw [hq]; exact Emb.refl _⟩
      · rw [hc, if_pos rfl] at h2
        have he : nl l2 = nl l ++ [(p : Int)] := by rw [h2]; simp [nl]
        clear h2
        refine T_seq ?_
        refine T_sr ?_
        refine S_mv rfl rfl rfl ?_
        refine S_mv rfl rfl rfl ?_
        refine S_val rfl rfl (Y_mulU rfl rfl (nat_cast _) (nat_cast _) rfl (by simp only [IntKind.bits]; assumption)) ?_
        refine S_mv rfl rfl rfl ?_
        refine S_val rfl rfl (Y_leq_f rfl rfl (by assumption)) ?_
        refine S_nx ?_
        refine T_cond_false rfl ?_
        refine T_exit ?_
        refine X_seq_exit ?_
        refine X_loop_exit ?_
        refine X_blk_hit rfl ?_
        refine X_seq ?_
        refine T_sr ?_
        refine S_mv rfl rfl rfl ?_
        refine S_nx ?_
        refine T_cond_true rfl ?_
        refine T_region ?_
        refine S_mv rfl rfl rfl ?_
        refine S_mv rfl rfl rfl ?_
        refine S_sliceR (und rfl) (siz rfl) (zer rfl) rfl rfl rfl rfl fun _ => ?_
        refine S_append 0 rfl (und rfl) (und rfl) (siz rfl) (byt rfl) (zer rfl) rfl rfl rfl (fun _ hs => hs.rowRd 1 rfl) (by simp; omega) rfl rfl rfl fun _ => ?_
        refine S_as rfl rfl rfl ?_
        refine S_nil ?_
        refine X_blk ?_
        refine X_seq ?_
        refine T_region ?_
        refine S_mv rfl rfl rfl ?_
        refine S_val rfl rfl (Y_addU rfl rfl (nat_cast _) (nat_lit' _) rfl (by simp only [IntKind.bits]; omega)) ?_
        refine S_as rfl rfl rfl ?_
        refine S_nil ?_
        refine X_loop ?_
        exact ⟨(p + 1, _), by dsimp only; omega, by dsimp only; omega, (by repeat (first | exact Env.sub_nil _ | (apply Env.sub_cons; rfl))), by dsimp only; rw [hq, he]; exact Emb.one 0 rfl⟩
  · obtain rfl : p = 312 := by omega
    rw [pr4]
    have hnl : (nl primes64).length = 64 := by rw [nl_length, primes64_length]
    generalize nl primes64 = l at *
    refine T_seq ?_
    refine T_sr ?_
    refine S_mv rfl rfl rfl ?_
    refine S_val rfl rfl (Y_lenV rfl (und rfl) rfl (fun _ hs => hs.rowRd 0 rfl) (by assumption)) ?_
    refine S_mv rfl rfl rfl ?_
    refine S_val rfl rfl (Y_lss_f rfl rfl (by decide)) ?_
    refine S_nx ?_
    refine T_cond_false rfl ?_
    refine T_exit ?_
    refine X_seq_exit ?_
    refine X_loop_exit ?_
    refine X_blk_hit rfl ?_
    refine X_seq ?_
    refine T_sr ?_
    refine S_mv rfl rfl rfl ?_
    refine S_as rfl rfl rfl ?_
    refine S_nx ?_
    refine T_ret ?_
    ((first | refine X_fin_ret ?_ | refine X_fin ?_); exact ⟨[_], [_], .cons (.tmp rfl) .nil, Emb.one 0 rfl, rfl⟩)
end Go.Proofs.YtjolmphkmfbpbaaDoor
/- The reference of layer 6: Constants. -/
namespace Go.Proofs.YtjolmphkmfbpbaaDoor
open Go.RowKit
set_option maxRecDepth 20000
set_option maxHeartbeats 40000000
theorem const_at (i : Nat) (h : i < 64) : ∃ p : Nat, p < 18446744073709551616 ∧ (nl primes64)[i]? = some ((p : Nat) : Int) ∧ (∃ a : U32, KL[i]? = some a ∧ a.toNat = rt p true 37 % 4294967296) ∧ (i < 8 → ∃ b : U32, H0[i]? = some b ∧ b.toNat = rt p false 37 % 4294967296) := by
  obtain ⟨p, hp⟩ := some_get primes64_length h
  have hlt : ∀ p ∈ primes64, p < 18446744073709551616 := by decide
  refine ⟨p, hlt p (List.mem_of_getElem? hp), ?_, ⟨BitVec.ofNat 32 (rt p true 37 % 4294967296), ?_, ?_⟩, fun h8 => ⟨BitVec.ofNat 32 (rt p false 37 % 4294967296), ?_, ?_⟩⟩
  · unfold nl
    rw [List.getElem?_map, hp]
    rfl
  · rw [← KL_roots, List.getElem?_map, hp]
    rfl
  · rw [BitVec.toNat_ofNat]
    generalize rt p true 37 = z
    omega
  · rw [← H0_roots, List.getElem?_map, List.getElem?_take, if_pos h8, hp]
    rfl
  · rw [BitVec.toNat_ofNat]
    generalize rt p false 37 = z
    omega
def fillK (l : List U32) (n i : Nat) : List U32 := l.take i ++ List.replicate (n - i) 0
theorem fillK_zero (l : List U32) (n : Nat) : fillK l n 0 = List.replicate n 0 := rfl
theorem fillK_length {l : List U32} {n : Nat} (hl : l.length = n) (i : Nat) : (fillK l n i).length = n := by unfold fillK; simp; omega
theorem fillK_end {l : List U32} {n i : Nat} (hl : l.length = n) (h : n ≤ i) : fillK l n i = l := by
  unfold fillK
  rw [List.take_of_length_le (by omega), Nat.sub_eq_zero_of_le h, List.replicate_zero, List.append_nil]
theorem fillK_succ {l : List U32} {n i : Nat} {a : U32} (hl : l.length = n) (h : l[i]? = some a) : (fillK l n i).set i a = fillK l n (i + 1) := by
  have hi : i < n := by rw [← hl]; exact (List.getElem?_eq_some_iff.1 h).1
  have h1 : (l.take i).length = i := by rw [List.length_take]; omega
  unfold fillK
  rw [List.set_append_right _ _ (by omega), h1, Nat.sub_self, show n - i = (n - (i + 1)) + 1 by omega, List.replicate_succ, List.set_cons_zero, List.take_add_one, h, Option.toList_some, List.append_assoc]
  rfl
theorem constants06_any (w : World) : Fn Tryd.prog 27 #[] w fun u N => u = .tuple #[.agg (ints .u32 (bvl KL)), .agg (ints .u32 (bvl H0))] ∧ N = [] := by
  have ca := const_at
  have hK : KL.length = 64 := rfl
  have hH : H0.length = 8 := rfl
  have hp : (nl primes64).length = 64 := by rw [nl_length, primes64_length]
  have pr := primes06_any
  generalize KL = K at *
  generalize H0 = h0 at *
  generalize nl primes64 = pl at *
  refine Fn_of (args := []) Tryd.func27 rfl Tryd.ntmps27 Tryd.results27 (by simp) ?_
  refine T_sr ?_
  refine S_allocA (zer rfl) rfl rfl fun _ => ?_
  refine S_allocA (zer rfl) rfl rfl fun _ => ?_
  refine S_nx ?_
  refine T_sr ?_
  refine S_callR _ rfl rfl (bod rfl) (fun w hs => pr _) rfl rfl fun _ => ?_
  refine S_as rfl rfl rfl ?_
  refine S_nx ?_
  refine T_sr ?_
  refine S_val rfl rfl (Y_build (und rfl) (siz rfl) (zer rfl) rfl rfl) ?_
  refine S_allocA (zer rfl) rfl rfl fun _ => ?_
  refine S_storeAI 3 (siz rfl) rfl rfl rfl rfl rfl rfl ?_
  refine S_nx ?_
  refine T_sr ?_
  refine S_val rfl rfl (Y_build (und rfl) (siz rfl) (zer rfl) rfl rfl) ?_
  refine S_allocA (zer rfl) rfl rfl fun _ => ?_
  refine S_storeAI 4 (siz rfl) rfl rfl rfl rfl rfl rfl ?_
  refine S_nx ?_
  refine T_seq ?_
  refine T_sr ?_
  refine S_as rfl rfl rfl ?_
  refine S_nx ?_
  refine T_block ?_
  rename_i b0 b1 vp bk bh
  refine T_loopE (α := Nat) (fun i => i ≤ 64)
    (fun i => [(0, .pointer (some ⟨b0, 0, none⟩)), (1, .pointer (some ⟨b1, 0, none⟩)), (2, vp), (3, .pointer (some ⟨bk, 0, none⟩)), (4, .pointer (some ⟨bh, 0, none⟩)), (5, .int .i64 i)])
    (fun i => [blk b0 (.cells (ints .u32 (List.replicate 64 0)) 57 (0, 0)), blk b1 (.cells (ints .u32 (List.replicate 8 0)) 46 (0, 0)), row .u64 pl vp, blk bk (.cells (ints .u32 (bvl (fillK K 64 i))) 57 (0, 0)), blk bh (.cells (ints .u32 (bvl (fillK h0 8 i))) 46 (0, 0))])
    (fun i => 64 - i) 0 (Nat.zero_le _) (by repeat (first | exact Env.sub_nil _ | (apply Env.sub_cons; rfl))) (by rw [fillK_zero, fillK_zero, bvl_zero, bvl_zero]; exact Emb.idx [0, 1, 2, 3, 4] rfl rfl) ?_
  intro i hi
  have hkl := fillK_length hK i
  have hhl := fillK_length hH i
  by_cases h : i < 64
  · obtain ⟨p, hlt, hpi, ⟨a, ha, hae⟩, hb⟩ := ca i h
    have hix : i < pl.length := by omega
    have hs1 := fillK_succ hK ha
    have hset := bvl_set (fillK K 64 i) i a
    rw [hs1, hae] at hset
    have rk := fun w => root06_any p true hlt w
    have rh := fun w => root06_any p false hlt w
    by_cases h8 : i < 8
    · obtain ⟨b, hb, hbe⟩ := hb h8
      have hs2 := fillK_succ hH hb
      have hset2 := bvl_set (fillK h0 8 i) i b
      rw [hs2, hbe] at hset2
      clear hs1 hs2 ca ha hae hb hbe
      generalize rt p true 37 % 4294967296 = ra at *
      generalize rt p false 37 % 4294967296 = rb at *
      generalize hk1 : fillK K 64 (i + 1) = k1 at *
      generalize fillK K 64 i = k0 at *
      generalize hh1 : fillK h0 8 (i + 1) = h1 at *
      generalize fillK h0 8 i = h2 at *
      refine T_seq ?_
      refine T_sr ?_
      refine S_mv rfl rfl rfl ?_
      refine S_val rfl rfl (Y_lss_t rfl rfl (by omega)) ?_
      refine S_nx ?_
      refine T_cond_true rfl ?_
      refine T_skip ?_
      refine X_seq ?_
      refine T_seq ?_
      refine T_block ?_
      refine T_sr ?_
      refine S_mv rfl rfl rfl ?_
      refine S_mv rfl rfl rfl ?_
      refine S_mv rfl rfl rfl ?_
      refine S_val rfl rfl (Y_ixV (und rfl) (siz rfl) rfl rfl (fun _ hs => hs.rowRd 2 rfl) (nat_cast _) (by assumption)) ?_
      refine S_val rfl rfl (Y_loadV (und rfl) rfl rfl (fun _ hs => hs.rowRd 2 rfl) (by assumption)) ?_
      refine S_callV rfl rfl (bod rfl) (fun w hs => rk _) rfl rfl ?_
      refine S_val rfl rfl (Y_ixa (und rfl) (siz rfl) rfl rfl (nat_cast _) (by assumption)) ?_
      refine S_storeI 3 (siz rfl) rfl rfl rfl (by simp; omega) rfl rfl ?_
      refine S_nx ?_
      refine T_sr ?_
      refine S_mv rfl rfl rfl ?_
      refine S_val rfl rfl (Y_lss_t rfl rfl (by omega)) ?_
      refine S_nx ?_
      refine T_cond_true rfl ?_
      refine T_region ?_
      refine S_mv rfl rfl rfl ?_
      refine S_mv rfl rfl rfl ?_
      refine S_mv rfl rfl rfl ?_
      refine S_val rfl rfl (Y_ixV (und rfl) (siz rfl) rfl rfl (fun _ hs => hs.rowRd 2 rfl) (nat_cast _) (by assumption)) ?_
      refine S_val rfl rfl (Y_loadV (und rfl) rfl rfl (fun _ hs => hs.rowRd 2 rfl) (by assumption)) ?_
      refine S_callV rfl rfl (bod rfl) (fun w hs => rh _) rfl rfl ?_
      refine S_val rfl rfl (Y_ixa (und rfl) (siz rfl) rfl rfl (nat_cast _) (by assumption)) ?_
      refine S_storeI 4 (siz rfl) rfl rfl rfl (by simp; omega) rfl rfl ?_
      refine S_nil ?_
      refine X_blk ?_
      refine X_seq ?_
      refine T_region ?_
      refine S_mv rfl rfl rfl ?_
      refine S_val rfl rfl (Y_addN rfl rfl (nat_cast _) (nat_lit' _) (by omega)) ?_
      refine S_as rfl rfl rfl ?_
      refine S_nil ?_
      refine X_loop ?_
      exact ⟨i + 1, by omega, by omega, (by repeat (first | exact Env.sub_nil _ | (apply Env.sub_cons; rfl))), by (try dsimp only); rw [hk1, hh1, ← hset, ← hset2]; exact Emb.idx [0, 1, 2, 3, 4] rfl rfl⟩
    · have hs2 : fillK h0 8 (i + 1) = fillK h0 8 i := by rw [fillK_end hH (by omega), fillK_end hH (by omega)]
      clear hs1 ca ha hae hb
      generalize rt p true 37 % 4294967296 = ra at *
      generalize hk1 : fillK K 64 (i + 1) = k1 at *
      generalize fillK K 64 i = k0 at *
      refine T_seq ?_
      refine T_sr ?_
      refine S_mv rfl rfl rfl ?_
      refine S_val rfl rfl (Y_lss_t rfl rfl (by omega)) ?_
      refine S_nx ?_
      refine T_cond_true rfl ?_
      refine T_skip ?_
      refine X_seq ?_
      refine T_seq ?_
      refine T_block ?_
      refine T_sr ?_
      refine S_mv rfl rfl rfl ?_
      refine S_mv rfl rfl rfl ?_
      refine S_mv rfl rfl rfl ?_
      refine S_val rfl rfl (Y_ixV (und rfl) (siz rfl) rfl rfl (fun _ hs => hs.rowRd 2 rfl) (nat_cast _) (by assumption)) ?_
      refine S_val rfl rfl (Y_loadV (und rfl) rfl rfl (fun _ hs => hs.rowRd 2 rfl) (by assumption)) ?_
      refine S_callV rfl rfl (bod rfl) (fun w hs => rk _) rfl rfl ?_
      refine S_val rfl rfl (Y_ixa (und rfl) (siz rfl) rfl rfl (nat_cast _) (by assumption)) ?_
      refine S_storeI 3 (siz rfl) rfl rfl rfl (by simp; omega) rfl rfl ?_
      refine S_nx ?_
      refine T_sr ?_
      refine S_mv rfl rfl rfl ?_
      refine S_val rfl rfl (Y_lss_f rfl rfl (by omega)) ?_
      refine S_nx ?_
      refine T_cond_false rfl ?_
      refine T_skip ?_
      refine X_blk ?_
      refine X_seq ?_
      refine T_region ?_
      refine S_mv rfl rfl rfl ?_
      refine S_val rfl rfl (Y_addN rfl rfl (nat_cast _) (nat_lit' _) (by omega)) ?_
      refine S_as rfl rfl rfl ?_
      refine S_nil ?_
      refine X_loop ?_
      exact ⟨i + 1, by omega, by omega, (by repeat (first | exact Env.sub_nil _ | (apply Env.sub_cons; rfl))), by (try dsimp only); rw [hk1, hs2, ← hset]; exact Emb.idx [0, 1, 2, 3, 4] rfl rfl⟩
  · obtain rfl : i = 64 := by omega
    rw [fillK_end hK (by omega), fillK_end hH (by omega)]
    have q1 : (bvl K).length = 64 := by rw [bvl_length, hK]
    have q2 : (bvl h0).length = 8 := by rw [bvl_length, hH]
    have q3 : (List.replicate 64 (0 : Int)).length = 64 := List.length_replicate
    have q4 : (List.replicate 8 (0 : Int)).length = 8 := List.length_replicate
    refine T_seq ?_
    refine T_sr ?_
    refine S_mv rfl rfl rfl ?_
    refine S_val rfl rfl (Y_lss_f rfl rfl (by decide)) ?_
    refine S_nx ?_
    refine T_cond_false rfl ?_
    refine T_exit ?_
    refine X_seq_exit ?_
    refine X_loop_exit ?_
    refine X_blk_hit rfl ?_
    refine X_seq ?_
    refine T_seq ?_
    refine T_drawL (.succ (.succ .zero)) [.fx (blk b0 (.cells (ints .u32 (List.replicate 64 0)) 57 (0, 0))), .fx (blk b1 (.cells (ints .u32 (List.replicate 8 0)) 46 (0, 0)))] [blk bk (.cells (ints .u32 (bvl K)) 57 (0, 0)), blk bh (.cells (ints .u32 (bvl h0)) 46 (0, 0))] rfl (by kernel_rfl) (Emb.idx [3, 4, 0, 1] rfl rfl) rfl (by kernel_rfl) ?_
    refine D0_valM rfl rfl rfl (Y_loadAI 0 (und rfl) rfl rfl rfl (siz rfl) (by assumption)) ?_
    refine D0_valM rfl rfl rfl (Y_loadAI 1 (und rfl) rfl rfl rfl (siz rfl) (by assumption)) ?_
    refine D0_nilL ?_
    refine DL_storeAI rfl (fun _ => rfl) rfl (siz rfl) (fun _ => rfl) (fun _ => rfl) rfl (by assumption) ?_
    refine DL_storeAI rfl (fun _ => rfl) rfl (siz rfl) (fun _ => rfl) (fun _ => rfl) rfl (by assumption) ?_
    refine DL_nil fun _ => ?_
    refine X_seq ?_
    refine T_ret ?_
    ((first | refine X_fin_ret ?_ | refine X_fin ?_); exact ⟨[_, _], [], .cons (.agg 2 rfl (und rfl) rfl rfl (by rw [ints_size, q1]; exact siz rfl)) (.cons (.agg 3 rfl (und rfl) rfl rfl (by rw [ints_size, q2]; exact siz rfl)) .nil), Emb.nil _, rfl, rfl⟩)
end Go.Proofs.YtjolmphkmfbpbaaDoor
/- 32-bit numbers as bit vectors: quotients, a number from 2^32 - 1. -/
namespace Go.Proofs.YtjolmphkmfbpbaaDoor
open Go.RowKit
set_option maxRecDepth 20000
section
variable {C : Ctx} {E : Env} {L : Hp} {dst : Option Tmp} {ty : TypeId} {pos : String} {af : Array Edge} {g : Option (Nat × Bool)}
variable {x y : Operand} {t u : TypeId} {a b : U32}
theorem Y_bquo8 (hx : ev E x = some (.int .u32 ((a.toNat : Nat) : Int))) (hy : ev E y = some (.int .u32 8)) : Yv C E L ⟨dst, .binOp .quo t x y u, ty, pos, af, g⟩ (.int .u32 (((a >>> 3).toNat : Nat) : Int)) := by
  rw [BitVec.toNat_ushiftRight, Nat.shiftRight_eq_div_pow]
  have ha := a.isLt
  exact Y_quoN (n := 8) hx hy (nat_cast _) (nat_lit' _) (by decide) (by simp only [IntKind.max, IntKind.signed, IntKind.bits, Bool.false_eq_true, if_false, if_true]; omega)
theorem Y_bquo1024 (hx : ev E x = some (.int .u32 ((a.toNat : Nat) : Int))) (hy : ev E y = some (.int .u32 1024)) : Yv C E L ⟨dst, .binOp .quo t x y u, ty, pos, af, g⟩ (.int .u32 (((a >>> 10).toNat : Nat) : Int)) := by
  rw [BitVec.toNat_ushiftRight, Nat.shiftRight_eq_div_pow]
  have ha := a.isLt
  exact Y_quoN (n := 1024) hx hy (nat_cast _) (nat_lit' _) (by decide) (by simp only [IntKind.max, IntKind.signed, IntKind.bits, Bool.false_eq_true, if_false, if_true]; omega)
theorem Y_bsubm (hx : ev E x = some (.int .u32 4294967295)) (hy : ev E y = some (.int .u32 ((a.toNat : Nat) : Int))) : Yv C E L ⟨dst, .binOp .sub t x y u, ty, pos, af, g⟩ (.int .u32 (((~~~ a).toNat : Nat) : Int)) := by
  rw [BitVec.toNat_not]
  have ha := a.isLt
  exact Y_subU (m := 4294967295) (k := .u32) hx hy (nat_lit' _) (nat_cast _) rfl (by omega) (by simp only [IntKind.bits]; omega)
/-- s[lo:hi] -/
theorem Y_sliceLHV {es : TypeId} {k k' k2 : IntKind} {p p2 : Int} {lo hi : Nat} {l : List Int} {v : Value} {z : Operand} (ht : C.P.underlying t = some (.slice es)) (he : szOf C.P es = some 1) (hx : ev E x = some v) (hy : ev E y = some (.int k' p)) (hz : ev E z = some (.int k2 p2)) (hr : ∀ w, St C L w → Rd w v k l) (hp : IsNat p lo) (hq : IsNat p2 hi) (h1 : lo ≤ hi) (h2 : hi ≤ l.length) :
    Yv C E L ⟨dst, .slice t x (some y) (some z) none, ty, pos, af, g⟩ (vTake (hi - lo) (vDrop lo v)) := by
  refine ⟨fun a w h hs => ?_⟩
  obtain ⟨b, c, rfl, hc, _⟩ := (hr w hs).out
  have e2 : (Instr.sliceBound (.int k2 p2) c .sliceAcap).run C.P w = .ok hi w := run_bound hq (by omega)
  have e1 : (Instr.sliceBound (.int k' p) hi .sliceB).run C.P w = .ok lo w := run_bound hp h1
  simp [execOp, h.eval hx, h.eval hy, h.eval hz, Instr.sliceAt, Instr.slice, Instr.sliceBounds, run_underlying ht, run_sizeOf he, e1, e2, vTake, vDrop, addrAt]
theorem Rd.win {w : World} {v : Value} {k : IntKind} {l : List Int} (h : Rd w v k l) {lo hi : Nat} (h1 : lo ≤ hi) (h2 : hi ≤ l.length) : Rd w (vTake (hi - lo) (vDrop lo v)) k ((l.drop lo).take (hi - lo)) :=
  (h.dropV (by omega)).takeV (by rw [List.length_drop]; omega)
theorem Y_loadW {d : TypeDesc} {k : IntKind} {p : Int} {lo hi i : Nat} {l : List Int} {v : Value} (q : Nat) (ht : C.P.underlying t = some d) (hd : isAggB d = false) (hx : ev E x = some (.pointer (some (vAt (vTake (hi - lo) (vDrop lo v)) i)))) (hq : L[q]? = some (row k l v)) (h1 : lo ≤ hi) (h2 : hi ≤ l.length) (hv : ((l.drop lo).take (hi - lo))[i]? = some p) :
    Yv C E L ⟨dst, .load t x, ty, pos, af, g⟩ (.int k p) :=
  Y_loadV ht hd hx (fun _ hs => (hs.rowRd q hq).win h1 h2) hv
theorem Sh.win {v : Value} {n lo hi : Nat} (h : Sh v n) (h1 : lo ≤ hi) (h2 : hi ≤ n) (h3 : lo < n) : Sh (vTake (hi - lo) (vDrop lo v)) (hi - lo) := by
  obtain ⟨a, c, rfl, hc, h⟩ := h.out
  refine ⟨addrAt a c lo, c - lo, rfl, by omega, ?_⟩
  rcases h with rfl | ⟨b, off, rfl⟩
  · omega
  · refine .inr ?_
    unfold addrAt
    split
    · exact ⟨b, off, rfl⟩
    · exact ⟨b, off + lo, by rw [Option.map_some, addr_add]⟩
end
theorem or_xor (e f g : U32) : (e &&& f) ||| (~~~ e &&& g) = (e &&& f) ^^^ (~~~ e &&& g) := by
  refine BitVec.eq_of_getLsbD_eq fun i hi => ?_
  simp only [BitVec.getLsbD_or, BitVec.getLsbD_xor, BitVec.getLsbD_and, BitVec.getLsbD_not, hi, decide_true, Bool.true_and]
  cases e.getLsbD i <;> cases f.getLsbD i <;> cases g.getLsbD i <;> rfl
theorem maj_xor (a b c : U32) : (a &&& b) ||| (a &&& c) ||| (b &&& c) = (a &&& b) ^^^ (a &&& c) ^^^ (b &&& c) := by
  refine BitVec.eq_of_getLsbD_eq fun i hi => ?_
  simp only [BitVec.getLsbD_or, BitVec.getLsbD_xor, BitVec.getLsbD_and]
  cases a.getLsbD i <;> cases b.getLsbD i <;> cases c.getLsbD i <;> rfl
end Go.Proofs.YtjolmphkmfbpbaaDoor
