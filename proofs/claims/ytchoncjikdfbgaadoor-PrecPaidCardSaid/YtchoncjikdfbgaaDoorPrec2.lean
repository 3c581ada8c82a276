import Derived.Test.YtchoncjikdfbgaaDoorPrec1
import Derived.Test.YtchoncjikdfbgaaDoorLits
import Derived.Test.YtchoncjikdfbgaaDoorSha3
/- Package prec: Run; the law PrecPaid. -/
namespace Go.Proofs.YtchoncjikdfbgaaDoor
open Go.RowKit
set_option maxRecDepth 20000
set_option maxHeartbeats 40000000

theorem short16_any (n x : Nat) (hx : x < 256 ^ n) (hn : n ≤ 1000000) (v : Value) (w : World) (hr : Rd w v .u8 (bel n x)) : Fn Tryd.prog 5 #[v] w fun u N => (∃ b, u = .bool b) ∧ N = [] := by
  have l0 := fun w h => rlength_any n x 0 hx hn (by omega) v w h
  have l1 := fun w h => rlength_any n x 1 hx hn (by omega) v w h
  have l2 := fun w h => rlength_any n x 2 hx hn (by omega) v w h
  generalize decide (lenN n x 0 < 18446744073709551616) = q0 at *
  generalize decide (lenN n x 1 < 18446744073709551616) = q1 at *
  generalize decide (lenN n x 2 < 18446744073709551616) = q2 at *
  generalize (if lenN n x 0 < 18446744073709551616 then lenN n x 0 else 0) = z0 at *
  generalize (if lenN n x 1 < 18446744073709551616 then lenN n x 1 else 0) = z1 at *
  generalize (if lenN n x 2 < 18446744073709551616 then lenN n x 2 else 0) = z2 at *
  clear hx hn
  refine Fn_of (args := [v]) Tryd.func5 rfl Tryd.ntmps5 Tryd.results5 (by simp) ?_
  refine T_seq ?_
  refine T_region ?_
  refine S_val rfl rfl (Y_assign rfl) ?_
  refine S_nil ?_
  refine X_seq ?_
  refine T_seq ?_
  refine T_region ?_
  refine S_val rfl rfl (Y_move rfl) ?_
  refine S_callV rfl rfl (bod rfl) (fun w hs => l0 _ (by first | exact hs.rowRd 0 rfl | exact hs.rowRd 1 rfl | exact hs.rowRd 2 rfl | exact hs.rowRd 3 rfl | exact hs.rowRd 4 rfl | exact hs.rowRd 5 rfl | exact hs.rowRd 6 rfl | exact hs.rowRd 7 rfl | exact hs.rowRd 8 rfl | exact hs.rowRd 9 rfl | exact hs.rowRd 10 rfl | exact hs.rowRd 11 rfl | exact hs.rowRd 12 rfl | exact hs.rowRd 13 rfl | exact Rd.st (by assumption) hs)) rfl rfl ?_
  refine S_val rfl rfl (Y_move rfl) ?_
  refine S_val rfl rfl (Y_extract rfl rfl) ?_
  refine S_val rfl rfl (Y_extract rfl rfl) ?_
  refine S_val rfl rfl (Y_assign rfl) ?_
  refine S_val rfl rfl (Y_assign rfl) ?_
  refine S_nil ?_
  refine X_seq ?_
  refine T_seq ?_
  refine T_region ?_
  refine S_val rfl rfl (Y_move rfl) ?_
  refine S_callV rfl rfl (bod rfl) (fun w hs => l1 _ (by first | exact hs.rowRd 0 rfl | exact hs.rowRd 1 rfl | exact hs.rowRd 2 rfl | exact hs.rowRd 3 rfl | exact hs.rowRd 4 rfl | exact hs.rowRd 5 rfl | exact hs.rowRd 6 rfl | exact hs.rowRd 7 rfl | exact hs.rowRd 8 rfl | exact hs.rowRd 9 rfl | exact hs.rowRd 10 rfl | exact hs.rowRd 11 rfl | exact hs.rowRd 12 rfl | exact hs.rowRd 13 rfl | exact Rd.st (by assumption) hs)) rfl rfl ?_
  refine S_val rfl rfl (Y_move rfl) ?_
  refine S_val rfl rfl (Y_extract rfl rfl) ?_
  refine S_val rfl rfl (Y_extract rfl rfl) ?_
  refine S_val rfl rfl (Y_assign rfl) ?_
  refine S_val rfl rfl (Y_assign rfl) ?_
  refine S_nil ?_
  refine X_seq ?_
  refine T_seq ?_
  refine T_region ?_
  refine S_val rfl rfl (Y_move rfl) ?_
  refine S_callV rfl rfl (bod rfl) (fun w hs => l2 _ (by first | exact hs.rowRd 0 rfl | exact hs.rowRd 1 rfl | exact hs.rowRd 2 rfl | exact hs.rowRd 3 rfl | exact hs.rowRd 4 rfl | exact hs.rowRd 5 rfl | exact hs.rowRd 6 rfl | exact hs.rowRd 7 rfl | exact hs.rowRd 8 rfl | exact hs.rowRd 9 rfl | exact hs.rowRd 10 rfl | exact hs.rowRd 11 rfl | exact hs.rowRd 12 rfl | exact hs.rowRd 13 rfl | exact Rd.st (by assumption) hs)) rfl rfl ?_
  cases q0
  · refine S_val rfl rfl (Y_move rfl) ?_
    refine S_val rfl rfl (Y_extract rfl rfl) ?_
    refine S_val rfl rfl (Y_extract rfl rfl) ?_
    refine S_val rfl rfl (Y_assign rfl) ?_
    refine S_val rfl rfl (Y_assign rfl) ?_
    refine S_nil ?_
    refine X_seq ?_
    refine T_seq ?_
    refine T_seq ?_
    refine T_region ?_
    refine S_val rfl rfl (Y_move rfl) ?_
    refine S_val rfl rfl (Y_not rfl rfl) ?_
    refine S_val rfl rfl (Y_move rfl) ?_
    refine S_skip rfl rfl ?_
    refine S_skip rfl rfl ?_
    refine S_val rfl rfl (Y_pick_t rfl rfl) ?_
    refine S_val rfl rfl (Y_move rfl) ?_
    refine S_skip rfl rfl ?_
    refine S_skip rfl rfl ?_
    refine S_val rfl rfl (Y_pick_t rfl rfl) ?_
    refine S_val rfl rfl (Y_move rfl) ?_
    refine S_skip rfl rfl ?_
    refine S_skip rfl rfl ?_
    refine S_val rfl rfl (Y_pick_t rfl rfl) ?_
    refine S_val rfl rfl (Y_move rfl) ?_
    refine S_skip rfl rfl ?_
    refine S_skip rfl rfl ?_
    refine S_val rfl rfl (Y_pick_t rfl rfl) ?_
    refine S_val rfl rfl (Y_move rfl) ?_
    refine S_skip rfl rfl ?_
    refine S_skip rfl rfl ?_
    refine S_val rfl rfl (Y_pick_t rfl rfl) ?_
    refine S_nil ?_
    refine X_seq ?_
    refine T_cond_true rfl ?_
    refine T_seq ?_
    refine T_region ?_
    refine S_val rfl rfl (Y_assign rfl) ?_
    refine S_nil ?_
    refine X_seq ?_
    refine T_ret ?_
    refine X_seq_ret ?_
    ((first | refine X_fin_ret ?_ | refine X_fin ?_); exact ⟨[_], [], .cons (.tmp rfl) .nil, Emb.nil _, ⟨_, rfl⟩, rfl⟩)
  · cases q1
    · refine S_val rfl rfl (Y_move rfl) ?_
      refine S_val rfl rfl (Y_extract rfl rfl) ?_
      refine S_val rfl rfl (Y_extract rfl rfl) ?_
      refine S_val rfl rfl (Y_assign rfl) ?_
      refine S_val rfl rfl (Y_assign rfl) ?_
      refine S_nil ?_
      refine X_seq ?_
      refine T_seq ?_
      refine T_seq ?_
      refine T_region ?_
      refine S_val rfl rfl (Y_move rfl) ?_
      refine S_val rfl rfl (Y_not rfl rfl) ?_
      refine S_val rfl rfl (Y_move rfl) ?_
      refine S_val rfl rfl (Y_move rfl) ?_
      refine S_val rfl rfl (Y_not rfl rfl) ?_
      refine S_val rfl rfl (Y_pick_f rfl rfl) ?_
      refine S_val rfl rfl (Y_move rfl) ?_
      refine S_skip rfl rfl ?_
      refine S_skip rfl rfl ?_
      refine S_val rfl rfl (Y_pick_t rfl rfl) ?_
      refine S_val rfl rfl (Y_move rfl) ?_
      refine S_skip rfl rfl ?_
      refine S_skip rfl rfl ?_
      refine S_val rfl rfl (Y_pick_t rfl rfl) ?_
      refine S_val rfl rfl (Y_move rfl) ?_
      refine S_skip rfl rfl ?_
      refine S_skip rfl rfl ?_
      refine S_val rfl rfl (Y_pick_t rfl rfl) ?_
      refine S_val rfl rfl (Y_move rfl) ?_
      refine S_skip rfl rfl ?_
      refine S_skip rfl rfl ?_
      refine S_val rfl rfl (Y_pick_t rfl rfl) ?_
      refine S_nil ?_
      refine X_seq ?_
      refine T_cond_true rfl ?_
      refine T_seq ?_
      refine T_region ?_
      refine S_val rfl rfl (Y_assign rfl) ?_
      refine S_nil ?_
      refine X_seq ?_
      refine T_ret ?_
      refine X_seq_ret ?_
      ((first | refine X_fin_ret ?_ | refine X_fin ?_); exact ⟨[_], [], .cons (.tmp rfl) .nil, Emb.nil _, ⟨_, rfl⟩, rfl⟩)
    · cases q2
      · refine S_val rfl rfl (Y_move rfl) ?_
        refine S_val rfl rfl (Y_extract rfl rfl) ?_
        refine S_val rfl rfl (Y_extract rfl rfl) ?_
        refine S_val rfl rfl (Y_assign rfl) ?_
        refine S_val rfl rfl (Y_assign rfl) ?_
        refine S_nil ?_
        refine X_seq ?_
        refine T_seq ?_
        refine T_seq ?_
        refine T_region ?_
        refine S_val rfl rfl (Y_move rfl) ?_
        refine S_val rfl rfl (Y_not rfl rfl) ?_
        refine S_val rfl rfl (Y_move rfl) ?_
        refine S_val rfl rfl (Y_move rfl) ?_
        refine S_val rfl rfl (Y_not rfl rfl) ?_
        refine S_val rfl rfl (Y_pick_f rfl rfl) ?_
        refine S_val rfl rfl (Y_move rfl) ?_
        refine S_val rfl rfl (Y_move rfl) ?_
        refine S_val rfl rfl (Y_not rfl rfl) ?_
        refine S_val rfl rfl (Y_pick_f rfl rfl) ?_
        refine S_val rfl rfl (Y_move rfl) ?_
        refine S_skip rfl rfl ?_
        refine S_skip rfl rfl ?_
        refine S_val rfl rfl (Y_pick_t rfl rfl) ?_
        refine S_val rfl rfl (Y_move rfl) ?_
        refine S_skip rfl rfl ?_
        refine S_skip rfl rfl ?_
        refine S_val rfl rfl (Y_pick_t rfl rfl) ?_
        refine S_val rfl rfl (Y_move rfl) ?_
        refine S_skip rfl rfl ?_
        refine S_skip rfl rfl ?_
        refine S_val rfl rfl (Y_pick_t rfl rfl) ?_
        refine S_nil ?_
        refine X_seq ?_
        refine T_cond_true rfl ?_
        refine T_seq ?_
        refine T_region ?_
        refine S_val rfl rfl (Y_assign rfl) ?_
        refine S_nil ?_
        refine X_seq ?_
        refine T_ret ?_
        refine X_seq_ret ?_
        ((first | refine X_fin_ret ?_ | refine X_fin ?_); exact ⟨[_], [], .cons (.tmp rfl) .nil, Emb.nil _, ⟨_, rfl⟩, rfl⟩)
      · rcases (show 64 < z0 ∨ (¬ 64 < z0 ∧ 64 < z1) ∨ (¬ 64 < z0 ∧ ¬ 64 < z1 ∧ 64 < z2) ∨ (¬ 64 < z0 ∧ ¬ 64 < z1 ∧ ¬ 64 < z2 ∧ ¬ z0 ≤ 20) ∨ (¬ 64 < z0 ∧ ¬ 64 < z1 ∧ ¬ 64 < z2 ∧ z0 ≤ 20 ∧ ¬ z1 ≤ 5) ∨ (¬ 64 < z0 ∧ ¬ 64 < z1 ∧ ¬ 64 < z2 ∧ z0 ≤ 20 ∧ z1 ≤ 5 ∧ ¬ z2 ≤ 9) ∨ (¬ 64 < z0 ∧ ¬ 64 < z1 ∧ ¬ 64 < z2 ∧ z0 ≤ 20 ∧ z1 ≤ 5 ∧ z2 ≤ 9) by omega) with g1 | ⟨g1, g2⟩ | ⟨g1, g2, g3⟩ | ⟨g1, g2, g3, g4⟩ | ⟨g1, g2, g3, g4, g5⟩ | ⟨g1, g2, g3, g4, g5, g6⟩ | ⟨g1, g2, g3, g4, g5, g6⟩
        all_goals
          first | (refine S_val rfl rfl (Y_move rfl) ?_; refine S_val rfl rfl (Y_extract rfl rfl) ?_; refine S_val rfl rfl (Y_extract rfl rfl) ?_; refine S_val rfl rfl (Y_assign rfl) ?_; refine S_val rfl rfl (Y_assign rfl) ?_; refine S_nil ?_; refine X_seq ?_; refine T_seq ?_; refine T_seq ?_; refine T_region ?_; refine S_val rfl rfl (Y_move rfl) ?_; refine S_val rfl rfl (Y_not rfl rfl) ?_; refine S_val rfl rfl (Y_move rfl) ?_; refine S_val rfl rfl (Y_move rfl) ?_; refine S_val rfl rfl (Y_not rfl rfl) ?_; refine S_val rfl rfl (Y_pick_f rfl rfl) ?_; refine S_val rfl rfl (Y_move rfl) ?_; refine S_val rfl rfl (Y_move rfl) ?_; refine S_val rfl rfl (Y_not rfl rfl) ?_; refine S_val rfl rfl (Y_pick_f rfl rfl) ?_; refine S_val rfl rfl (Y_move rfl) ?_; refine S_val rfl rfl (Y_move rfl) ?_; refine S_val rfl rfl (Y_gtr_t rfl rfl (by omega)) ?_; refine S_val rfl rfl (Y_pick_f rfl rfl) ?_; refine S_val rfl rfl (Y_move rfl) ?_; refine S_skip rfl rfl ?_; refine S_skip rfl rfl ?_; refine S_val rfl rfl (Y_pick_t rfl rfl) ?_; refine S_val rfl rfl (Y_move rfl) ?_; refine S_skip rfl rfl ?_; refine S_skip rfl rfl ?_; refine S_val rfl rfl (Y_pick_t rfl rfl) ?_; refine S_nil ?_; refine X_seq ?_; refine T_cond_true rfl ?_; refine T_seq ?_; refine T_region ?_; refine S_val rfl rfl (Y_assign rfl) ?_; refine S_nil ?_; refine X_seq ?_; refine T_ret ?_; refine X_seq_ret ?_) | (refine S_val rfl rfl (Y_move rfl) ?_; refine S_val rfl rfl (Y_extract rfl rfl) ?_; refine S_val rfl rfl (Y_extract rfl rfl) ?_; refine S_val rfl rfl (Y_assign rfl) ?_; refine S_val rfl rfl (Y_assign rfl) ?_; refine S_nil ?_; refine X_seq ?_; refine T_seq ?_; refine T_seq ?_; refine T_region ?_; refine S_val rfl rfl (Y_move rfl) ?_; refine S_val rfl rfl (Y_not rfl rfl) ?_; refine S_val rfl rfl (Y_move rfl) ?_; refine S_val rfl rfl (Y_move rfl) ?_; refine S_val rfl rfl (Y_not rfl rfl) ?_; refine S_val rfl rfl (Y_pick_f rfl rfl) ?_; refine S_val rfl rfl (Y_move rfl) ?_; refine S_val rfl rfl (Y_move rfl) ?_; refine S_val rfl rfl (Y_not rfl rfl) ?_; refine S_val rfl rfl (Y_pick_f rfl rfl) ?_; refine S_val rfl rfl (Y_move rfl) ?_; refine S_val rfl rfl (Y_move rfl) ?_; refine S_val rfl rfl (Y_gtr_f rfl rfl (by omega)) ?_; refine S_val rfl rfl (Y_pick_f rfl rfl) ?_; refine S_val rfl rfl (Y_move rfl) ?_; refine S_val rfl rfl (Y_move rfl) ?_; refine S_val rfl rfl (Y_gtr_t rfl rfl (by omega)) ?_; refine S_val rfl rfl (Y_pick_f rfl rfl) ?_; refine S_val rfl rfl (Y_move rfl) ?_; refine S_skip rfl rfl ?_; refine S_skip rfl rfl ?_; refine S_val rfl rfl (Y_pick_t rfl rfl) ?_; refine S_nil ?_; refine X_seq ?_; refine T_cond_true rfl ?_; refine T_seq ?_; refine T_region ?_; refine S_val rfl rfl (Y_assign rfl) ?_; refine S_nil ?_; refine X_seq ?_; refine T_ret ?_; refine X_seq_ret ?_) | (refine S_val rfl rfl (Y_move rfl) ?_; refine S_val rfl rfl (Y_extract rfl rfl) ?_; refine S_val rfl rfl (Y_extract rfl rfl) ?_; refine S_val rfl rfl (Y_assign rfl) ?_; refine S_val rfl rfl (Y_assign rfl) ?_; refine S_nil ?_; refine X_seq ?_; refine T_seq ?_; refine T_seq ?_; refine T_region ?_; refine S_val rfl rfl (Y_move rfl) ?_; refine S_val rfl rfl (Y_not rfl rfl) ?_; refine S_val rfl rfl (Y_move rfl) ?_; refine S_val rfl rfl (Y_move rfl) ?_; refine S_val rfl rfl (Y_not rfl rfl) ?_; refine S_val rfl rfl (Y_pick_f rfl rfl) ?_; refine S_val rfl rfl (Y_move rfl) ?_; refine S_val rfl rfl (Y_move rfl) ?_; refine S_val rfl rfl (Y_not rfl rfl) ?_; refine S_val rfl rfl (Y_pick_f rfl rfl) ?_; refine S_val rfl rfl (Y_move rfl) ?_; refine S_val rfl rfl (Y_move rfl) ?_; refine S_val rfl rfl (Y_gtr_f rfl rfl (by omega)) ?_; refine S_val rfl rfl (Y_pick_f rfl rfl) ?_; refine S_val rfl rfl (Y_move rfl) ?_; refine S_val rfl rfl (Y_move rfl) ?_; refine S_val rfl rfl (Y_gtr_f rfl rfl (by omega)) ?_; refine S_val rfl rfl (Y_pick_f rfl rfl) ?_; refine S_val rfl rfl (Y_move rfl) ?_; refine S_val rfl rfl (Y_move rfl) ?_; refine S_val rfl rfl (Y_gtr_t rfl rfl (by omega)) ?_; refine S_val rfl rfl (Y_pick_f rfl rfl) ?_; refine S_nil ?_; refine X_seq ?_; refine T_cond_true rfl ?_; refine T_seq ?_; refine T_region ?_; refine S_val rfl rfl (Y_assign rfl) ?_; refine S_nil ?_; refine X_seq ?_; refine T_ret ?_; refine X_seq_ret ?_) | (refine S_val rfl rfl (Y_move rfl) ?_; refine S_val rfl rfl (Y_extract rfl rfl) ?_; refine S_val rfl rfl (Y_extract rfl rfl) ?_; refine S_val rfl rfl (Y_assign rfl) ?_; refine S_val rfl rfl (Y_assign rfl) ?_; refine S_nil ?_; refine X_seq ?_; refine T_seq ?_; refine T_seq ?_; refine T_region ?_; refine S_val rfl rfl (Y_move rfl) ?_; refine S_val rfl rfl (Y_not rfl rfl) ?_; refine S_val rfl rfl (Y_move rfl) ?_; refine S_val rfl rfl (Y_move rfl) ?_; refine S_val rfl rfl (Y_not rfl rfl) ?_; refine S_val rfl rfl (Y_pick_f rfl rfl) ?_; refine S_val rfl rfl (Y_move rfl) ?_; refine S_val rfl rfl (Y_move rfl) ?_; refine S_val rfl rfl (Y_not rfl rfl) ?_; refine S_val rfl rfl (Y_pick_f rfl rfl) ?_; refine S_val rfl rfl (Y_move rfl) ?_; refine S_val rfl rfl (Y_move rfl) ?_; refine S_val rfl rfl (Y_gtr_f rfl rfl (by omega)) ?_; refine S_val rfl rfl (Y_pick_f rfl rfl) ?_; refine S_val rfl rfl (Y_move rfl) ?_; refine S_val rfl rfl (Y_move rfl) ?_; refine S_val rfl rfl (Y_gtr_f rfl rfl (by omega)) ?_; refine S_val rfl rfl (Y_pick_f rfl rfl) ?_; refine S_val rfl rfl (Y_move rfl) ?_; refine S_val rfl rfl (Y_move rfl) ?_; refine S_val rfl rfl (Y_gtr_f rfl rfl (by omega)) ?_; refine S_val rfl rfl (Y_pick_f rfl rfl) ?_; refine S_nil ?_; refine X_seq ?_; refine T_cond_false rfl ?_; refine T_skip ?_; refine X_seq ?_; refine T_seq ?_; refine T_region ?_; refine S_val rfl rfl (Y_move rfl) ?_; refine S_val rfl rfl (Y_leq_t rfl rfl (by omega)) ?_; refine S_val rfl rfl (Y_move rfl) ?_; refine S_val rfl rfl (Y_move rfl) ?_; refine S_val rfl rfl (Y_leq_t rfl rfl (by omega)) ?_; refine S_val rfl rfl (Y_pick_t rfl rfl) ?_; refine S_val rfl rfl (Y_move rfl) ?_; refine S_val rfl rfl (Y_move rfl) ?_; refine S_val rfl rfl (Y_leq_t rfl rfl (by omega)) ?_; refine S_val rfl rfl (Y_pick_t rfl rfl) ?_; refine S_val rfl rfl (Y_assign rfl) ?_; refine S_nil ?_; refine X_seq ?_; refine T_ret ?_) | (refine S_val rfl rfl (Y_move rfl) ?_; refine S_val rfl rfl (Y_extract rfl rfl) ?_; refine S_val rfl rfl (Y_extract rfl rfl) ?_; refine S_val rfl rfl (Y_assign rfl) ?_; refine S_val rfl rfl (Y_assign rfl) ?_; refine S_nil ?_; refine X_seq ?_; refine T_seq ?_; refine T_seq ?_; refine T_region ?_; refine S_val rfl rfl (Y_move rfl) ?_; refine S_val rfl rfl (Y_not rfl rfl) ?_; refine S_val rfl rfl (Y_move rfl) ?_; refine S_val rfl rfl (Y_move rfl) ?_; refine S_val rfl rfl (Y_not rfl rfl) ?_; refine S_val rfl rfl (Y_pick_f rfl rfl) ?_; refine S_val rfl rfl (Y_move rfl) ?_; refine S_val rfl rfl (Y_move rfl) ?_; refine S_val rfl rfl (Y_not rfl rfl) ?_; refine S_val rfl rfl (Y_pick_f rfl rfl) ?_; refine S_val rfl rfl (Y_move rfl) ?_; refine S_val rfl rfl (Y_move rfl) ?_; refine S_val rfl rfl (Y_gtr_f rfl rfl (by omega)) ?_; refine S_val rfl rfl (Y_pick_f rfl rfl) ?_; refine S_val rfl rfl (Y_move rfl) ?_; refine S_val rfl rfl (Y_move rfl) ?_; refine S_val rfl rfl (Y_gtr_f rfl rfl (by omega)) ?_; refine S_val rfl rfl (Y_pick_f rfl rfl) ?_; refine S_val rfl rfl (Y_move rfl) ?_; refine S_val rfl rfl (Y_move rfl) ?_; refine S_val rfl rfl (Y_gtr_f rfl rfl (by omega)) ?_; refine S_val rfl rfl (Y_pick_f rfl rfl) ?_; refine S_nil ?_; refine X_seq ?_; refine T_cond_false rfl ?_; refine T_skip ?_; refine X_seq ?_; refine T_seq ?_; refine T_region ?_; refine S_val rfl rfl (Y_move rfl) ?_; refine S_val rfl rfl (Y_leq_t rfl rfl (by omega)) ?_; refine S_val rfl rfl (Y_move rfl) ?_; refine S_val rfl rfl (Y_move rfl) ?_; refine S_val rfl rfl (Y_leq_t rfl rfl (by omega)) ?_; refine S_val rfl rfl (Y_pick_t rfl rfl) ?_; refine S_val rfl rfl (Y_move rfl) ?_; refine S_val rfl rfl (Y_move rfl) ?_; refine S_val rfl rfl (Y_leq_f rfl rfl (by omega)) ?_; refine S_val rfl rfl (Y_pick_t rfl rfl) ?_; refine S_val rfl rfl (Y_assign rfl) ?_; refine S_nil ?_; refine X_seq ?_; refine T_ret ?_) | (refine S_val rfl rfl (Y_move rfl) ?_; refine S_val rfl rfl (Y_extract rfl rfl) ?_; refine S_val rfl rfl (Y_extract rfl rfl) ?_; refine S_val rfl rfl (Y_assign rfl) ?_; refine S_val rfl rfl (Y_assign rfl) ?_; refine S_nil ?_; refine X_seq ?_; refine T_seq ?_; refine T_seq ?_; refine T_region ?_; refine S_val rfl rfl (Y_move rfl) ?_; refine S_val rfl rfl (Y_not rfl rfl) ?_; refine S_val rfl rfl (Y_move rfl) ?_; refine S_val rfl rfl (Y_move rfl) ?_; refine S_val rfl rfl (Y_not rfl rfl) ?_; refine S_val rfl rfl (Y_pick_f rfl rfl) ?_; refine S_val rfl rfl (Y_move rfl) ?_; refine S_val rfl rfl (Y_move rfl) ?_; refine S_val rfl rfl (Y_not rfl rfl) ?_; refine S_val rfl rfl (Y_pick_f rfl rfl) ?_; refine S_val rfl rfl (Y_move rfl) ?_; refine S_val rfl rfl (Y_move rfl) ?_; refine S_val rfl rfl (Y_gtr_f rfl rfl (by omega)) ?_; refine S_val rfl rfl (Y_pick_f rfl rfl) ?_; refine S_val rfl rfl (Y_move rfl) ?_; refine S_val rfl rfl (Y_move rfl) ?_; refine S_val rfl rfl (Y_gtr_f rfl rfl (by omega)) ?_; refine S_val rfl rfl (Y_pick_f rfl rfl) ?_; refine S_val rfl rfl (Y_move rfl) ?_; refine S_val rfl rfl (Y_move rfl) ?_; refine S_val rfl rfl (Y_gtr_f rfl rfl (by omega)) ?_; refine S_val rfl rfl (Y_pick_f rfl rfl) ?_; refine S_nil ?_; refine X_seq ?_; refine T_cond_false rfl ?_; refine T_skip ?_; refine X_seq ?_; refine T_seq ?_; refine T_region ?_; refine S_val rfl rfl (Y_move rfl) ?_; refine S_val rfl rfl (Y_leq_t rfl rfl (by omega)) ?_; refine S_val rfl rfl (Y_move rfl) ?_; refine S_val rfl rfl (Y_move rfl) ?_; refine S_val rfl rfl (Y_leq_f rfl rfl (by omega)) ?_; refine S_val rfl rfl (Y_pick_t rfl rfl) ?_; refine S_val rfl rfl (Y_move rfl) ?_; refine S_skip rfl rfl ?_; refine S_skip rfl rfl ?_; refine S_val rfl rfl (Y_pick_f rfl rfl) ?_; refine S_val rfl rfl (Y_assign rfl) ?_; refine S_nil ?_; refine X_seq ?_; refine T_ret ?_) | (refine S_val rfl rfl (Y_move rfl) ?_; refine S_val rfl rfl (Y_extract rfl rfl) ?_; refine S_val rfl rfl (Y_extract rfl rfl) ?_; refine S_val rfl rfl (Y_assign rfl) ?_; refine S_val rfl rfl (Y_assign rfl) ?_; refine S_nil ?_; refine X_seq ?_; refine T_seq ?_; refine T_seq ?_; refine T_region ?_; refine S_val rfl rfl (Y_move rfl) ?_; refine S_val rfl rfl (Y_not rfl rfl) ?_; refine S_val rfl rfl (Y_move rfl) ?_; refine S_val rfl rfl (Y_move rfl) ?_; refine S_val rfl rfl (Y_not rfl rfl) ?_; refine S_val rfl rfl (Y_pick_f rfl rfl) ?_; refine S_val rfl rfl (Y_move rfl) ?_; refine S_val rfl rfl (Y_move rfl) ?_; refine S_val rfl rfl (Y_not rfl rfl) ?_; refine S_val rfl rfl (Y_pick_f rfl rfl) ?_; refine S_val rfl rfl (Y_move rfl) ?_; refine S_val rfl rfl (Y_move rfl) ?_; refine S_val rfl rfl (Y_gtr_f rfl rfl (by omega)) ?_; refine S_val rfl rfl (Y_pick_f rfl rfl) ?_; refine S_val rfl rfl (Y_move rfl) ?_; refine S_val rfl rfl (Y_move rfl) ?_; refine S_val rfl rfl (Y_gtr_f rfl rfl (by omega)) ?_; refine S_val rfl rfl (Y_pick_f rfl rfl) ?_; refine S_val rfl rfl (Y_move rfl) ?_; refine S_val rfl rfl (Y_move rfl) ?_; refine S_val rfl rfl (Y_gtr_f rfl rfl (by omega)) ?_; refine S_val rfl rfl (Y_pick_f rfl rfl) ?_; refine S_nil ?_; refine X_seq ?_; refine T_cond_false rfl ?_; refine T_skip ?_; refine X_seq ?_; refine T_seq ?_; refine T_region ?_; refine S_val rfl rfl (Y_move rfl) ?_; refine S_val rfl rfl (Y_leq_f rfl rfl (by omega)) ?_; refine S_val rfl rfl (Y_move rfl) ?_; refine S_skip rfl rfl ?_; refine S_skip rfl rfl ?_; refine S_val rfl rfl (Y_pick_f rfl rfl) ?_; refine S_val rfl rfl (Y_move rfl) ?_; refine S_skip rfl rfl ?_; refine S_skip rfl rfl ?_; refine S_val rfl rfl (Y_pick_f rfl rfl) ?_; refine S_val rfl rfl (Y_assign rfl) ?_; refine S_nil ?_; refine X_seq ?_; refine T_ret ?_)
          ((first | refine X_fin_ret ?_ | refine X_fin ?_); exact ⟨[_], [], .cons (.tmp rfl) .nil, Emb.nil _, ⟨_, rfl⟩, rfl⟩)
/-- What Run hands back where the gas is enough. -/
def RunR (p gas : Nat) (r : Value) : Prop := (∃ u, r = .tuple #[u, .int .u64 ((gas - p : Nat) : Int), .bool true]) ∨ r = .tuple #[.slice none 0 0, .int .u64 ((0 : Nat) : Int), .bool false]
theorem prun_low (q : Int) (n x p gas : Nat) (hp : priceN q n x = p) (hx : x < 256 ^ n) (hn : n ≤ 1000000) (hpl : p < 18446744073709551616) (hg : gas < p) (v : Value) (w : World) (hr : Rd w v .u8 (bel n x)) : Fn Tryd.prog 9 #[.int .i64 q, v, .int .u64 gas] w fun r N => r = .tuple #[.slice none 0 0, .int .u64 ((0 : Nat) : Int), .bool false] ∧ N = [] := by
  have pr := fun w h => price_any q n x hx hn v w h
  rw [hp] at pr
  clear hp hx
  refine Fn_of (args := [.int .i64 q, v, .int .u64 gas]) Tryd.func9 rfl Tryd.ntmps9 Tryd.results9 (by simp) ?_
  refine T_seq ?_
  refine T_region ?_
  refine S_val rfl rfl (Y_assign rfl) ?_
  refine S_val rfl rfl (Y_assign rfl) ?_
  refine S_val rfl rfl (Y_assign rfl) ?_
  refine S_nil ?_
  refine X_seq ?_
  refine T_seq ?_
  refine T_region ?_
  refine S_val rfl rfl (Y_move rfl) ?_
  refine S_val rfl rfl (Y_move rfl) ?_
  refine S_callV rfl rfl (bod rfl) (fun w hs => pr _ (by first | exact hs.rowRd 0 rfl | exact hs.rowRd 1 rfl | exact hs.rowRd 2 rfl | exact hs.rowRd 3 rfl | exact hs.rowRd 4 rfl | exact hs.rowRd 5 rfl | exact hs.rowRd 6 rfl | exact hs.rowRd 7 rfl | exact hs.rowRd 8 rfl | exact hs.rowRd 9 rfl | exact hs.rowRd 10 rfl | exact hs.rowRd 11 rfl | exact hs.rowRd 12 rfl | exact hs.rowRd 13 rfl | exact Rd.st (by assumption) hs)) rfl rfl ?_
  refine S_val rfl rfl (Y_assign rfl) ?_
  refine S_nil ?_
  refine X_seq ?_
  refine T_seq ?_
  refine T_seq ?_
  refine T_region ?_
  refine S_val rfl rfl (Y_move rfl) ?_
  refine S_val rfl rfl (Y_move rfl) ?_
  refine S_val rfl rfl (Y_gtr_t rfl rfl (by omega)) ?_
  refine S_nil ?_
  refine X_seq ?_
  refine T_cond_true rfl ?_
  refine T_seq ?_
  refine T_region ?_
  refine S_val rfl rfl (Y_assign rfl) ?_
  refine S_val rfl rfl (Y_assign rfl) ?_
  refine S_val rfl rfl (Y_assign rfl) ?_
  refine S_nil ?_
  refine X_seq ?_
  refine T_ret ?_
  refine X_seq_ret ?_
  ((first | refine X_fin_ret ?_ | refine X_fin ?_); exact ⟨[_, _, _], [], .cons (.tmp rfl) (.cons (.tmp rfl) (.cons (.tmp rfl) .nil)), Emb.nil _, rfl, rfl⟩)
theorem prun_none (q : Int) (n x gas : Nat) (h : q ≠ 2 ∧ q ≠ 4 ∧ q ≠ 5) (hx : x < 256 ^ n) (hn : n ≤ 1000000) (hg : gas < 18446744073709551616) (v : Value) (w : World) (hr : Rd w v .u8 (bel n x)) : Fn Tryd.prog 9 #[.int .i64 q, v, .int .u64 gas] w fun r N => r = .tuple #[.slice none 0 0, .int .u64 ((gas - 0 : Nat) : Int), .bool true] ∧ N = [] := by
  have pr := fun w h => price_any q n x hx hn v w h
  obtain ⟨h2, h4, h5⟩ := h
  rw [show priceN q n x = 0 by unfold priceN; rw [if_neg h2, if_neg h4, if_neg h5]] at pr
  clear hx
  refine Fn_of (args := [.int .i64 q, v, .int .u64 gas]) Tryd.func9 rfl Tryd.ntmps9 Tryd.results9 (by simp) ?_
  refine T_seq ?_
  refine T_region ?_
  refine S_val rfl rfl (Y_assign rfl) ?_
  refine S_val rfl rfl (Y_assign rfl) ?_
  refine S_val rfl rfl (Y_assign rfl) ?_
  refine S_nil ?_
  refine X_seq ?_
  refine T_seq ?_
  refine T_region ?_
  refine S_val rfl rfl (Y_move rfl) ?_
  refine S_val rfl rfl (Y_move rfl) ?_
  refine S_callV rfl rfl (bod rfl) (fun w hs => pr _ (by first | exact hs.rowRd 0 rfl | exact hs.rowRd 1 rfl | exact hs.rowRd 2 rfl | exact hs.rowRd 3 rfl | exact hs.rowRd 4 rfl | exact hs.rowRd 5 rfl | exact hs.rowRd 6 rfl | exact hs.rowRd 7 rfl | exact hs.rowRd 8 rfl | exact hs.rowRd 9 rfl | exact hs.rowRd 10 rfl | exact hs.rowRd 11 rfl | exact hs.rowRd 12 rfl | exact hs.rowRd 13 rfl | exact Rd.st (by assumption) hs)) rfl rfl ?_
  refine S_val rfl rfl (Y_assign rfl) ?_
  refine S_nil ?_
  refine X_seq ?_
  refine T_seq ?_
  refine T_seq ?_
  refine T_region ?_
  refine S_val rfl rfl (Y_move rfl) ?_
  refine S_val rfl rfl (Y_move rfl) ?_
  refine S_val rfl rfl (Y_gtr_f rfl rfl (by omega)) ?_
  refine S_nil ?_
  refine X_seq ?_
  refine T_cond_false rfl ?_
  refine T_skip ?_
  refine X_seq ?_
  refine T_seq ?_
  refine T_region ?_
  refine S_val rfl rfl (Y_assign rfl) ?_
  refine S_nil ?_
  refine X_seq ?_
  refine T_seq ?_
  refine T_seq ?_
  refine T_region ?_
  refine S_val rfl rfl (Y_move rfl) ?_
  refine S_nil ?_
  refine X_seq ?_
  refine T_block ?_
  refine T_seq ?_
  refine T_region ?_
  refine S_val rfl rfl (Y_eql_f rfl rfl (by assumption)) ?_
  refine S_val rfl rfl (Y_assign rfl) ?_
  refine S_nil ?_
  refine X_seq ?_
  refine T_cond_false rfl ?_
  refine T_seq ?_
  refine T_region ?_
  refine S_val rfl rfl (Y_eql_f rfl rfl (by assumption)) ?_
  refine S_val rfl rfl (Y_assign rfl) ?_
  refine S_nil ?_
  refine X_seq ?_
  refine T_cond_false rfl ?_
  refine T_seq ?_
  refine T_region ?_
  refine S_val rfl rfl (Y_eql_f rfl rfl (by assumption)) ?_
  refine S_val rfl rfl (Y_assign rfl) ?_
  refine S_nil ?_
  refine X_seq ?_
  refine T_cond_false rfl ?_
  refine T_skip ?_
  refine X_blk ?_
  refine X_seq ?_
  refine T_seq ?_
  refine T_region ?_
  refine S_val rfl rfl (Y_move rfl) ?_
  refine S_val rfl rfl (Y_move rfl) ?_
  refine S_val rfl rfl (Y_move rfl) ?_
  refine S_val rfl rfl (Y_subU rfl rfl (nat_cast _) (nat_cast _) rfl (Nat.le_of_ble_eq_true rfl) (by simp only [IntKind.bits]; assumption)) ?_
  refine S_val rfl rfl (Y_assign rfl) ?_
  refine S_val rfl rfl (Y_assign rfl) ?_
  refine S_val rfl rfl (Y_assign rfl) ?_
  refine S_nil ?_
  refine X_seq ?_
  refine T_ret ?_
  ((first | refine X_fin_ret ?_ | refine X_fin ?_); exact ⟨[_, _, _], [], .cons (.tmp rfl) (.cons (.tmp rfl) (.cons (.tmp rfl) .nil)), Emb.nil _, rfl, rfl⟩)
theorem prun_4 (n x p gas : Nat) (hp : priceN 4 n x = p) (hx : x < 256 ^ n) (hn : n ≤ 1000000) (hgl : gas < 18446744073709551616) (hg : p ≤ gas) (v : Value) (w : World) (hr : Rd w v .u8 (bel n x)) : Fn Tryd.prog 9 #[.int .i64 4, v, .int .u64 gas] w fun r N => ∃ u, r = .tuple #[u, .int .u64 ((gas - p : Nat) : Int), .bool true] ∧ N = [row .u8 (bel n x) u] := by
  have pr := fun w h => price_any 4 n x hx hn v w h
  rw [hp] at pr
  have cl := fun w h => clone_any (bel n x) (by rw [bel_length]; exact hn) v w h
  clear hp hx
  refine Fn_of (args := [.int .i64 4, v, .int .u64 gas]) Tryd.func9 rfl Tryd.ntmps9 Tryd.results9 (by simp) ?_
  refine T_seq ?_
  refine T_region ?_
  refine S_val rfl rfl (Y_assign rfl) ?_
  refine S_val rfl rfl (Y_assign rfl) ?_
  refine S_val rfl rfl (Y_assign rfl) ?_
  refine S_nil ?_
  refine X_seq ?_
  refine T_seq ?_
  refine T_region ?_
  refine S_val rfl rfl (Y_move rfl) ?_
  refine S_val rfl rfl (Y_move rfl) ?_
  refine S_callV rfl rfl (bod rfl) (fun w hs => pr _ (by first | exact hs.rowRd 0 rfl | exact hs.rowRd 1 rfl | exact hs.rowRd 2 rfl | exact hs.rowRd 3 rfl | exact hs.rowRd 4 rfl | exact hs.rowRd 5 rfl | exact hs.rowRd 6 rfl | exact hs.rowRd 7 rfl | exact hs.rowRd 8 rfl | exact hs.rowRd 9 rfl | exact hs.rowRd 10 rfl | exact hs.rowRd 11 rfl | exact hs.rowRd 12 rfl | exact hs.rowRd 13 rfl | exact Rd.st (by assumption) hs)) rfl rfl ?_
  refine S_val rfl rfl (Y_assign rfl) ?_
  refine S_nil ?_
  refine X_seq ?_
  refine T_seq ?_
  refine T_seq ?_
  refine T_region ?_
  refine S_val rfl rfl (Y_move rfl) ?_
  refine S_val rfl rfl (Y_move rfl) ?_
  refine S_val rfl rfl (Y_gtr_f rfl rfl (by omega)) ?_
  refine S_nil ?_
  refine X_seq ?_
  refine T_cond_false rfl ?_
  refine T_skip ?_
  refine X_seq ?_
  refine T_seq ?_
  refine T_region ?_
  refine S_val rfl rfl (Y_assign rfl) ?_
  refine S_nil ?_
  refine X_seq ?_
  refine T_seq ?_
  refine T_seq ?_
  refine T_region ?_
  refine S_val rfl rfl (Y_move rfl) ?_
  refine S_nil ?_
  refine X_seq ?_
  refine T_block ?_
  refine T_seq ?_
  refine T_region ?_
  refine S_val rfl rfl (Y_eql_f rfl rfl (by decide)) ?_
  refine S_val rfl rfl (Y_assign rfl) ?_
  refine S_nil ?_
  refine X_seq ?_
  refine T_cond_false rfl ?_
  refine T_seq ?_
  refine T_region ?_
  refine S_val rfl rfl (Y_eql_t rfl rfl (by decide)) ?_
  refine S_val rfl rfl (Y_assign rfl) ?_
  refine S_nil ?_
  refine X_seq ?_
  refine T_cond_true rfl ?_
  refine T_region ?_
  refine S_val rfl rfl (Y_move rfl) ?_
  refine S_callR _ rfl rfl (bod rfl) (fun w hs => cl _ (by first | exact hs.rowRd 0 rfl | exact hs.rowRd 1 rfl | exact hs.rowRd 2 rfl | exact hs.rowRd 3 rfl | exact hs.rowRd 4 rfl | exact hs.rowRd 5 rfl | exact hs.rowRd 6 rfl | exact hs.rowRd 7 rfl | exact hs.rowRd 8 rfl | exact hs.rowRd 9 rfl | exact hs.rowRd 10 rfl | exact hs.rowRd 11 rfl | exact hs.rowRd 12 rfl | exact hs.rowRd 13 rfl | exact Rd.st (by assumption) hs)) rfl rfl fun _ => ?_
  refine S_val rfl rfl (Y_assign rfl) ?_
  refine S_nil ?_
  refine X_blk ?_
  refine X_seq ?_
  refine T_seq ?_
  refine T_region ?_
  refine S_val rfl rfl (Y_move rfl) ?_
  refine S_val rfl rfl (Y_move rfl) ?_
  refine S_val rfl rfl (Y_move rfl) ?_
  refine S_val rfl rfl (Y_subU rfl rfl (nat_cast _) (nat_cast _) rfl (by assumption) (by simp only [IntKind.bits]; assumption)) ?_
  refine S_val rfl rfl (Y_assign rfl) ?_
  refine S_val rfl rfl (Y_assign rfl) ?_
  refine S_val rfl rfl (Y_assign rfl) ?_
  refine S_nil ?_
  refine X_seq ?_
  refine T_ret ?_
  ((first | refine X_fin_ret ?_ | refine X_fin ?_); exact ⟨[_, _, _], [_], .cons (.tmp rfl) (.cons (.tmp rfl) (.cons (.tmp rfl) .nil)), Emb.one 0 rfl, ⟨_, rfl, rfl⟩⟩)
theorem prun_5 (n x p gas : Nat) (hp : priceN 5 n x = p) (hx : x < 256 ^ n) (hn : n ≤ 1000000) (hgl : gas < 18446744073709551616) (hg : p ≤ gas) (v : Value) (w : World) (hr : Rd w v .u8 (bel n x)) : Fn Tryd.prog 9 #[.int .i64 5, v, .int .u64 gas] w fun r N => (r = .tuple #[.slice none 0 0, .int .u64 ((gas - p : Nat) : Int), .bool true] ∧ N = []) ∨ (r = .tuple #[.slice none 0 0, .int .u64 ((0 : Nat) : Int), .bool false] ∧ N = []) ∨ (∃ u, r = .tuple #[u, .int .u64 ((gas - p : Nat) : Int), .bool true] ∧ N = [row .u8 (bel (lenN n x 2) (runN n x)) u]) := by
  have pr := fun w h => price_any 5 n x hx hn v w h
  rw [hp] at pr
  have rn := fun w h => mrun_nil n x hx hn v w h
  have rl := fun w h => mrun_long n x hx hn v w h
  have rp := fun w h => mrun_pow n x hx hn v w h
  by_cases hA : lenN n x 0 = 0 ∧ lenN n x 2 = 0
  · have rn2 := fun w h => rn w h hA
    clear hp hx rn rl rp hA
    refine Fn_of (args := [.int .i64 5, v, .int .u64 gas]) Tryd.func9 rfl Tryd.ntmps9 Tryd.results9 (by simp) ?_
    refine T_seq ?_
    refine T_region ?_
    refine S_val rfl rfl (Y_assign rfl) ?_
    refine S_val rfl rfl (Y_assign rfl) ?_
    refine S_val rfl rfl (Y_assign rfl) ?_
    refine S_nil ?_
    refine X_seq ?_
    refine T_seq ?_
    refine T_region ?_
    refine S_val rfl rfl (Y_move rfl) ?_
    refine S_val rfl rfl (Y_move rfl) ?_
    refine S_callV rfl rfl (bod rfl) (fun w hs => pr _ (by first | exact hs.rowRd 0 rfl | exact hs.rowRd 1 rfl | exact hs.rowRd 2 rfl | exact hs.rowRd 3 rfl | exact hs.rowRd 4 rfl | exact hs.rowRd 5 rfl | exact hs.rowRd 6 rfl | exact hs.rowRd 7 rfl | exact hs.rowRd 8 rfl | exact hs.rowRd 9 rfl | exact hs.rowRd 10 rfl | exact hs.rowRd 11 rfl | exact hs.rowRd 12 rfl | exact hs.rowRd 13 rfl | exact Rd.st (by assumption) hs)) rfl rfl ?_
    refine S_val rfl rfl (Y_assign rfl) ?_
    refine S_nil ?_
    refine X_seq ?_
    refine T_seq ?_
    refine T_seq ?_
    refine T_region ?_
    refine S_val rfl rfl (Y_move rfl) ?_
    refine S_val rfl rfl (Y_move rfl) ?_
    refine S_val rfl rfl (Y_gtr_f rfl rfl (by omega)) ?_
    refine S_nil ?_
    refine X_seq ?_
    refine T_cond_false rfl ?_
    refine T_skip ?_
    refine X_seq ?_
    refine T_seq ?_
    refine T_region ?_
    refine S_val rfl rfl (Y_assign rfl) ?_
    refine S_nil ?_
    refine X_seq ?_
    refine T_seq ?_
    refine T_seq ?_
    refine T_region ?_
    refine S_val rfl rfl (Y_move rfl) ?_
    refine S_nil ?_
    refine X_seq ?_
    refine T_block ?_
    refine T_seq ?_
    refine T_region ?_
    refine S_val rfl rfl (Y_eql_f rfl rfl (by decide)) ?_
    refine S_val rfl rfl (Y_assign rfl) ?_
    refine S_nil ?_
    refine X_seq ?_
    refine T_cond_false rfl ?_
    refine T_seq ?_
    refine T_region ?_
    refine S_val rfl rfl (Y_eql_f rfl rfl (by decide)) ?_
    refine S_val rfl rfl (Y_assign rfl) ?_
    refine S_nil ?_
    refine X_seq ?_
    refine T_cond_false rfl ?_
    refine T_seq ?_
    refine T_region ?_
    refine S_val rfl rfl (Y_eql_t rfl rfl (by decide)) ?_
    refine S_val rfl rfl (Y_assign rfl) ?_
    refine S_nil ?_
    refine X_seq ?_
    refine T_cond_true rfl ?_
    refine T_seq ?_
    refine T_region ?_
    refine S_val rfl rfl (Y_move rfl) ?_
    refine S_callV rfl rfl (bod rfl) (fun w hs => rn2 _ (by first | exact hs.rowRd 0 rfl | exact hs.rowRd 1 rfl | exact hs.rowRd 2 rfl | exact hs.rowRd 3 rfl | exact hs.rowRd 4 rfl | exact hs.rowRd 5 rfl | exact hs.rowRd 6 rfl | exact hs.rowRd 7 rfl | exact hs.rowRd 8 rfl | exact hs.rowRd 9 rfl | exact hs.rowRd 10 rfl | exact hs.rowRd 11 rfl | exact hs.rowRd 12 rfl | exact hs.rowRd 13 rfl | exact Rd.st (by assumption) hs)) rfl rfl ?_
    refine S_val rfl rfl (Y_move rfl) ?_
    refine S_val rfl rfl (Y_extract rfl rfl) ?_
    refine S_val rfl rfl (Y_extract rfl rfl) ?_
    refine S_val rfl rfl (Y_assign rfl) ?_
    refine S_val rfl rfl (Y_assign rfl) ?_
    refine S_nil ?_
    refine X_seq ?_
    refine T_seq ?_
    refine T_seq ?_
    refine T_region ?_
    refine S_val rfl rfl (Y_move rfl) ?_
    refine S_val rfl rfl (Y_neq_f rfl rfl (by decide)) ?_
    refine S_nil ?_
    refine X_seq ?_
    refine T_cond_false rfl ?_
    refine T_skip ?_
    refine X_seq ?_
    refine T_region ?_
    refine S_val rfl rfl (Y_move rfl) ?_
    refine S_val rfl rfl (Y_assign rfl) ?_
    refine S_nil ?_
    refine X_blk ?_
    refine X_seq ?_
    refine T_seq ?_
    refine T_region ?_
    refine S_val rfl rfl (Y_move rfl) ?_
    refine S_val rfl rfl (Y_move rfl) ?_
    refine S_val rfl rfl (Y_move rfl) ?_
    refine S_val rfl rfl (Y_subU rfl rfl (nat_cast _) (nat_cast _) rfl (by assumption) (by simp only [IntKind.bits]; assumption)) ?_
    refine S_val rfl rfl (Y_assign rfl) ?_
    refine S_val rfl rfl (Y_assign rfl) ?_
    refine S_val rfl rfl (Y_assign rfl) ?_
    refine S_nil ?_
    refine X_seq ?_
    refine T_ret ?_
    ((first | refine X_fin_ret ?_ | refine X_fin ?_); exact ⟨[_, _, _], [], .cons (.tmp rfl) (.cons (.tmp rfl) (.cons (.tmp rfl) .nil)), Emb.nil _, .inl ⟨rfl, rfl⟩⟩)
  · by_cases hl : 64 < lenN n x 0 ∨ 64 < lenN n x 1 ∨ 64 < lenN n x 2
    · have rl2 := fun w h => rl w h hA hl
      clear hp hx rn rl rp hA hl
      refine Fn_of (args := [.int .i64 5, v, .int .u64 gas]) Tryd.func9 rfl Tryd.ntmps9 Tryd.results9 (by simp) ?_
      refine T_seq ?_
      refine T_region ?_
      refine S_val rfl rfl (Y_assign rfl) ?_
      refine S_val rfl rfl (Y_assign rfl) ?_
      refine S_val rfl rfl (Y_assign rfl) ?_
      refine S_nil ?_
      refine X_seq ?_
      refine T_seq ?_
      refine T_region ?_
      refine S_val rfl rfl (Y_move rfl) ?_
      refine S_val rfl rfl (Y_move rfl) ?_
      refine S_callV rfl rfl (bod rfl) (fun w hs => pr _ (by first | exact hs.rowRd 0 rfl | exact hs.rowRd 1 rfl | exact hs.rowRd 2 rfl | exact hs.rowRd 3 rfl | exact hs.rowRd 4 rfl | exact hs.rowRd 5 rfl | exact hs.rowRd 6 rfl | exact hs.rowRd 7 rfl | exact hs.rowRd 8 rfl | exact hs.rowRd 9 rfl | exact hs.rowRd 10 rfl | exact hs.rowRd 11 rfl | exact hs.rowRd 12 rfl | exact hs.rowRd 13 rfl | exact Rd.st (by assumption) hs)) rfl rfl ?_
      refine S_val rfl rfl (Y_assign rfl) ?_
      refine S_nil ?_
      refine X_seq ?_
      refine T_seq ?_
      refine T_seq ?_
      refine T_region ?_
      refine S_val rfl rfl (Y_move rfl) ?_
      refine S_val rfl rfl (Y_move rfl) ?_
      refine S_val rfl rfl (Y_gtr_f rfl rfl (by omega)) ?_
      refine S_nil ?_
      refine X_seq ?_
      refine T_cond_false rfl ?_
      refine T_skip ?_
      refine X_seq ?_
      refine T_seq ?_
      refine T_region ?_
      refine S_val rfl rfl (Y_assign rfl) ?_
      refine S_nil ?_
      refine X_seq ?_
      refine T_seq ?_
      refine T_seq ?_
      refine T_region ?_
      refine S_val rfl rfl (Y_move rfl) ?_
      refine S_nil ?_
      refine X_seq ?_
      refine T_block ?_
      refine T_seq ?_
      refine T_region ?_
      refine S_val rfl rfl (Y_eql_f rfl rfl (by decide)) ?_
      refine S_val rfl rfl (Y_assign rfl) ?_
      refine S_nil ?_
      refine X_seq ?_
      refine T_cond_false rfl ?_
      refine T_seq ?_
      refine T_region ?_
      refine S_val rfl rfl (Y_eql_f rfl rfl (by decide)) ?_
      refine S_val rfl rfl (Y_assign rfl) ?_
      refine S_nil ?_
      refine X_seq ?_
      refine T_cond_false rfl ?_
      refine T_seq ?_
      refine T_region ?_
      refine S_val rfl rfl (Y_eql_t rfl rfl (by decide)) ?_
      refine S_val rfl rfl (Y_assign rfl) ?_
      refine S_nil ?_
      refine X_seq ?_
      refine T_cond_true rfl ?_
      refine T_seq ?_
      refine T_region ?_
      refine S_val rfl rfl (Y_move rfl) ?_
      refine S_callV rfl rfl (bod rfl) (fun w hs => rl2 _ (by first | exact hs.rowRd 0 rfl | exact hs.rowRd 1 rfl | exact hs.rowRd 2 rfl | exact hs.rowRd 3 rfl | exact hs.rowRd 4 rfl | exact hs.rowRd 5 rfl | exact hs.rowRd 6 rfl | exact hs.rowRd 7 rfl | exact hs.rowRd 8 rfl | exact hs.rowRd 9 rfl | exact hs.rowRd 10 rfl | exact hs.rowRd 11 rfl | exact hs.rowRd 12 rfl | exact hs.rowRd 13 rfl | exact Rd.st (by assumption) hs)) rfl rfl ?_
      refine S_val rfl rfl (Y_move rfl) ?_
      refine S_val rfl rfl (Y_extract rfl rfl) ?_
      refine S_val rfl rfl (Y_extract rfl rfl) ?_
      refine S_val rfl rfl (Y_assign rfl) ?_
      refine S_val rfl rfl (Y_assign rfl) ?_
      refine S_nil ?_
      refine X_seq ?_
      refine T_seq ?_
      refine T_seq ?_
      refine T_region ?_
      refine S_val rfl rfl (Y_move rfl) ?_
      refine S_val rfl rfl (Y_neq_t rfl rfl (by decide)) ?_
      refine S_nil ?_
      refine X_seq ?_
      refine T_cond_true rfl ?_
      refine T_seq ?_
      refine T_region ?_
      refine S_val rfl rfl (Y_assign rfl) ?_
      refine S_val rfl rfl (Y_assign rfl) ?_
      refine S_val rfl rfl (Y_assign rfl) ?_
      refine S_nil ?_
      refine X_seq ?_
      refine T_ret ?_
      refine X_seq_ret ?_
      refine X_blk_ret ?_
      refine X_seq_ret ?_
      ((first | refine X_fin_ret ?_ | refine X_fin ?_); exact ⟨[_, _, _], [], .cons (.tmp rfl) (.cons (.tmp rfl) (.cons (.tmp rfl) .nil)), Emb.nil _, .inr (.inl ⟨rfl, rfl⟩)⟩)
    · have rp2 := fun w h => rp w h hA (by omega) (by omega) (by omega)
      clear hp hx rn rl rp hA hl
      generalize runN n x = z at *
      generalize lenN n x 2 = m at *
      refine Fn_of (args := [.int .i64 5, v, .int .u64 gas]) Tryd.func9 rfl Tryd.ntmps9 Tryd.results9 (by simp) ?_
      refine T_seq ?_
      refine T_region ?_
      refine S_val rfl rfl (Y_assign rfl) ?_
      refine S_val rfl rfl (Y_assign rfl) ?_
      refine S_val rfl rfl (Y_assign rfl) ?_
      refine S_nil ?_
      refine X_seq ?_
      refine T_seq ?_
      refine T_region ?_
      refine S_val rfl rfl (Y_move rfl) ?_
      refine S_val rfl rfl (Y_move rfl) ?_
      refine S_callV rfl rfl (bod rfl) (fun w hs => pr _ (by first | exact hs.rowRd 0 rfl | exact hs.rowRd 1 rfl | exact hs.rowRd 2 rfl | exact hs.rowRd 3 rfl | exact hs.rowRd 4 rfl | exact hs.rowRd 5 rfl | exact hs.rowRd 6 rfl | exact hs.rowRd 7 rfl | exact hs.rowRd 8 rfl | exact hs.rowRd 9 rfl | exact hs.rowRd 10 rfl | exact hs.rowRd 11 rfl | exact hs.rowRd 12 rfl | exact hs.rowRd 13 rfl | exact Rd.st (by assumption) hs)) rfl rfl ?_
      refine S_val rfl rfl (Y_assign rfl) ?_
      refine S_nil ?_
      refine X_seq ?_
      refine T_seq ?_
      refine T_seq ?_
      refine T_region ?_
      refine S_val rfl rfl (Y_move rfl) ?_
      refine S_val rfl rfl (Y_move rfl) ?_
      refine S_val rfl rfl (Y_gtr_f rfl rfl (by omega)) ?_
      refine S_nil ?_
      refine X_seq ?_
      refine T_cond_false rfl ?_
      refine T_skip ?_
      refine X_seq ?_
      refine T_seq ?_
      refine T_region ?_
      refine S_val rfl rfl (Y_assign rfl) ?_
      refine S_nil ?_
      refine X_seq ?_
      refine T_seq ?_
      refine T_seq ?_
      refine T_region ?_
      refine S_val rfl rfl (Y_move rfl) ?_
      refine S_nil ?_
      refine X_seq ?_
      refine T_block ?_
      refine T_seq ?_
      refine T_region ?_
      refine S_val rfl rfl (Y_eql_f rfl rfl (by decide)) ?_
      refine S_val rfl rfl (Y_assign rfl) ?_
      refine S_nil ?_
      refine X_seq ?_
      refine T_cond_false rfl ?_
      refine T_seq ?_
      refine T_region ?_
      refine S_val rfl rfl (Y_eql_f rfl rfl (by decide)) ?_
      refine S_val rfl rfl (Y_assign rfl) ?_
      refine S_nil ?_
      refine X_seq ?_
      refine T_cond_false rfl ?_
      refine T_seq ?_
      refine T_region ?_
      refine S_val rfl rfl (Y_eql_t rfl rfl (by decide)) ?_
      refine S_val rfl rfl (Y_assign rfl) ?_
      refine S_nil ?_
      refine X_seq ?_
      refine T_cond_true rfl ?_
      refine T_seq ?_
      refine T_region ?_
      refine S_val rfl rfl (Y_move rfl) ?_
      refine S_call _ rfl rfl (bod rfl) (fun w hs => rp2 _ (by first | exact hs.rowRd 0 rfl | exact hs.rowRd 1 rfl | exact hs.rowRd 2 rfl | exact hs.rowRd 3 rfl | exact hs.rowRd 4 rfl | exact hs.rowRd 5 rfl | exact hs.rowRd 6 rfl | exact hs.rowRd 7 rfl | exact hs.rowRd 8 rfl | exact hs.rowRd 9 rfl | exact hs.rowRd 10 rfl | exact hs.rowRd 11 rfl | exact hs.rowRd 12 rfl | exact hs.rowRd 13 rfl | exact Rd.st (by assumption) hs)) rfl rfl ?_
      rintro _ _ ⟨u, rfl, rfl⟩
      refine S_val rfl rfl (Y_move rfl) ?_
      refine S_val rfl rfl (Y_extract rfl rfl) ?_
      refine S_val rfl rfl (Y_extract rfl rfl) ?_
      refine S_val rfl rfl (Y_assign rfl) ?_
      refine S_val rfl rfl (Y_assign rfl) ?_
      refine S_nil ?_
      refine X_seq ?_
      refine T_seq ?_
      refine T_seq ?_
      refine T_region ?_
      refine S_val rfl rfl (Y_move rfl) ?_
      refine S_val rfl rfl (Y_neq_f rfl rfl (by decide)) ?_
      refine S_nil ?_
      refine X_seq ?_
      refine T_cond_false rfl ?_
      refine T_skip ?_
      refine X_seq ?_
      refine T_region ?_
      refine S_val rfl rfl (Y_move rfl) ?_
      refine S_val rfl rfl (Y_assign rfl) ?_
      refine S_nil ?_
      refine X_blk ?_
      refine X_seq ?_
      refine T_seq ?_
      refine T_region ?_
      refine S_val rfl rfl (Y_move rfl) ?_
      refine S_val rfl rfl (Y_move rfl) ?_
      refine S_val rfl rfl (Y_move rfl) ?_
      refine S_val rfl rfl (Y_subU rfl rfl (nat_cast _) (nat_cast _) rfl (by assumption) (by simp only [IntKind.bits]; assumption)) ?_
      refine S_val rfl rfl (Y_assign rfl) ?_
      refine S_val rfl rfl (Y_assign rfl) ?_
      refine S_val rfl rfl (Y_assign rfl) ?_
      refine S_nil ?_
      refine X_seq ?_
      refine T_ret ?_
      ((first | refine X_fin_ret ?_ | refine X_fin ?_); exact ⟨[_, _, _], [_], .cons (.tmp rfl) (.cons (.tmp rfl) (.cons (.tmp rfl) .nil)), Emb.one 0 rfl, .inr (.inr ⟨_, rfl, rfl⟩)⟩)
theorem ab_bel : fillI (List.replicate 2 (0 : Int)) [(0, 97), (1, 98)] = bel 2 24930 := by decide
theorem strab : strI (bel 2 24930) = ⟨#[97, 98]⟩ := by kernel_rfl
theorem pfixed_any (w : World) : Fn Tryd.prog 6 #[] w fun v N => v = .bool true ∧ N = [] := by
  have e : priceN 4 2 24930 = 18 := rfl
  have r1 := fun v w h => prun_4 2 24930 18 20 e (by decide) (by decide) (by decide) (by decide) v w h
  have r2 := fun v w h => prun_low 4 2 24930 18 17 e (by decide) (by decide) (by decide) (by decide) v w h
  have hs := strab
  refine Fn_of (args := []) Tryd.func6 rfl Tryd.ntmps6 Tryd.results6 (by simp) ?_
  refine T_seq ?_
  refine T_region ?_
  refine S_val rfl rfl (Y_assign rfl) ?_
  refine S_nil ?_
  refine X_seq ?_
  refine T_seq ?_
  refine T_region ?_
  refine S_sliceR (und rfl) (siz rfl) (zer rfl) rfl rfl rfl rfl fun _ => ?_
  refine S_convB 0 (und rfl) (und rfl) rfl rfl (by decide) rfl rfl fun _ => ?_
  rw [ab_bel]
  skip
  refine S_call _ rfl rfl (bod rfl) (fun w hs => r1 _ _ (hs.rowZRd 0 rfl)) rfl rfl ?_
  rintro _ _ ⟨u, rfl, rfl⟩
  refine S_val rfl rfl (Y_move rfl) ?_
  refine S_val rfl rfl (Y_extract rfl rfl) ?_
  refine S_val rfl rfl (Y_extract rfl rfl) ?_
  refine S_val rfl rfl (Y_extract rfl rfl) ?_
  refine S_val rfl rfl (Y_assign rfl) ?_
  refine S_val rfl rfl (Y_assign rfl) ?_
  refine S_val rfl rfl (Y_assign rfl) ?_
  refine S_nil ?_
  refine X_seq ?_
  refine T_seq ?_
  refine T_region ?_
  refine S_sliceR (und rfl) (siz rfl) (zer rfl) rfl rfl rfl rfl fun _ => ?_
  refine S_convB 2 (und rfl) (und rfl) rfl rfl (by decide) rfl rfl fun _ => ?_
  rw [ab_bel]
  skip
  refine S_callV rfl rfl (bod rfl) (fun w hs => r2 _ _ (hs.rowZRd 2 rfl)) rfl rfl ?_
  refine S_val rfl rfl (Y_move rfl) ?_
  refine S_val rfl rfl (Y_extract rfl rfl) ?_
  refine S_val rfl rfl (Y_extract rfl rfl) ?_
  refine S_val rfl rfl (Y_extract rfl rfl) ?_
  refine S_val rfl rfl (Y_assign rfl) ?_
  refine S_val rfl rfl (Y_assign rfl) ?_
  refine S_val rfl rfl (Y_assign rfl) ?_
  refine S_nil ?_
  refine X_seq ?_
  refine T_seq ?_
  refine T_region ?_
  refine S_val rfl rfl (Y_move rfl) ?_
  refine S_val rfl rfl (Y_toStr (und rfl) (und rfl) (und rfl) rfl (fun _ hs => hs.rowRd 1 rfl)) ?_
  refine S_val rfl rfl (Y_eqlT_t rfl rfl rfl) ?_
  refine S_val rfl rfl (Y_move rfl) ?_
  refine S_val rfl rfl (Y_move rfl) ?_
  refine S_val rfl rfl (Y_eql_t rfl rfl (by decide)) ?_
  refine S_val rfl rfl (Y_pick_t rfl rfl) ?_
  refine S_val rfl rfl (Y_move rfl) ?_
  refine S_val rfl rfl (Y_move rfl) ?_
  refine S_val rfl rfl (Y_pick_t rfl rfl) ?_
  refine S_val rfl rfl (Y_move rfl) ?_
  refine S_val rfl rfl (Y_move rfl) ?_
  refine S_val rfl rfl (Y_len rfl (und rfl) rfl) ?_
  refine S_val rfl rfl (Y_eql_t rfl rfl (by decide)) ?_
  refine S_val rfl rfl (Y_pick_t rfl rfl) ?_
  refine S_val rfl rfl (Y_move rfl) ?_
  refine S_val rfl rfl (Y_move rfl) ?_
  refine S_val rfl rfl (Y_eql_t rfl rfl (by decide)) ?_
  refine S_val rfl rfl (Y_pick_t rfl rfl) ?_
  refine S_val rfl rfl (Y_move rfl) ?_
  refine S_val rfl rfl (Y_move rfl) ?_
  refine S_val rfl rfl (Y_not rfl rfl) ?_
  refine S_val rfl rfl (Y_pick_t rfl rfl) ?_
  refine S_val rfl rfl (Y_assign rfl) ?_
  refine S_nil ?_
  refine X_seq ?_
  refine T_ret ?_
  ((first | refine X_fin_ret ?_ | refine X_fin ?_); exact ⟨[_], [], .cons (.tmp rfl) .nil, Emb.nil _, rfl, rfl⟩)
theorem prun_2 (n x p gas : Nat) (bs : List U8) (hbs : bel n x = byl bs) (hbl : bs.length = n) (K : List U32) (hK : K.length = 64) (hp : priceN 2 n x = p) (hx : x < 256 ^ n) (hn : n ≤ 1000000) (hgl : gas < 18446744073709551616) (hg : p ≤ gas) (v : Value) (w : World) (hgb : Rd w (.slice (some ⟨0, 0, none⟩) 64 64) .u32 (bvl K)) (hr : Rd w v .u8 (bel n x)) : Fn Tryd.prog 9 #[.int .i64 2, v, .int .u64 gas] w fun r N => ∃ b, r = .tuple #[.slice (some ⟨b, 0, none⟩) 32 32, .int .u64 ((gas - p : Nat) : Int), .bool true] ∧ N = [blk b (.cells (ints .u8 (byl (sumF K bs))) 37 (0, 0))] := by
  have pr := fun w h => price_any 2 n x hx hn v w h
  rw [hp] at pr
  have sm := fun w hg hr => sum_any K bs hK (by omega) v w hg hr
  have hol : (sumF K bs).length = 32 := outs_length _ _
  rw [← hbs] at sm
  generalize sumF K bs = Z at *
  have hz : (byl Z).length = 32 := by rw [byl_length, hol]
  clear hp hx hbs
  refine Fn_of (args := [.int .i64 2, v, .int .u64 gas]) Tryd.func9 rfl Tryd.ntmps9 Tryd.results9 (by simp) ?_
  refine T_seq ?_
  refine T_region ?_
  refine S_val rfl rfl (Y_assign rfl) ?_
  refine S_val rfl rfl (Y_assign rfl) ?_
  refine S_val rfl rfl (Y_assign rfl) ?_
  refine S_nil ?_
  refine X_seq ?_
  refine T_seq ?_
  refine T_region ?_
  refine S_val rfl rfl (Y_move rfl) ?_
  refine S_val rfl rfl (Y_move rfl) ?_
  refine S_callV rfl rfl (bod rfl) (fun w hs => pr _ (by first | exact hs.rowRd 0 rfl | exact hs.rowRd 1 rfl | exact hs.rowRd 2 rfl | exact hs.rowRd 3 rfl | exact hs.rowRd 4 rfl | exact hs.rowRd 5 rfl | exact hs.rowRd 6 rfl | exact hs.rowRd 7 rfl | exact hs.rowRd 8 rfl | exact hs.rowRd 9 rfl | exact hs.rowRd 10 rfl | exact hs.rowRd 11 rfl | exact hs.rowRd 12 rfl | exact hs.rowRd 13 rfl | exact Rd.st (by assumption) hs)) rfl rfl ?_
  refine S_val rfl rfl (Y_assign rfl) ?_
  refine S_nil ?_
  refine X_seq ?_
  refine T_seq ?_
  refine T_seq ?_
  refine T_region ?_
  refine S_val rfl rfl (Y_move rfl) ?_
  refine S_val rfl rfl (Y_move rfl) ?_
  refine S_val rfl rfl (Y_gtr_f rfl rfl (by omega)) ?_
  refine S_nil ?_
  refine X_seq ?_
  refine T_cond_false rfl ?_
  refine T_skip ?_
  refine X_seq ?_
  refine T_seq ?_
  refine T_region ?_
  refine S_val rfl rfl (Y_assign rfl) ?_
  refine S_nil ?_
  refine X_seq ?_
  refine T_seq ?_
  refine T_seq ?_
  refine T_region ?_
  refine S_val rfl rfl (Y_move rfl) ?_
  refine S_nil ?_
  refine X_seq ?_
  refine T_block ?_
  refine T_seq ?_
  refine T_region ?_
  refine S_val rfl rfl (Y_eql_t rfl rfl (by decide)) ?_
  refine S_val rfl rfl (Y_assign rfl) ?_
  refine S_nil ?_
  refine X_seq ?_
  refine T_cond_true rfl ?_
  refine T_seq ?_
  refine T_region ?_
  refine S_val rfl rfl (Y_move rfl) ?_
  refine S_callV rfl rfl (bod rfl) (fun w hs => sm _ (Rd.st hgb hs) (Rd.st hr hs)) rfl rfl ?_
  refine S_allocA (zer rfl) rfl rfl fun _ => ?_
  refine S_storeAI 0 (siz rfl) rfl rfl rfl rfl (by assumption) rfl ?_
  refine S_nil ?_
  refine X_seq ?_
  refine T_region ?_
  refine S_val rfl rfl (Y_sliceArr (und rfl) (siz rfl) rfl) ?_
  refine S_val rfl rfl (Y_assign rfl) ?_
  refine S_nil ?_
  refine X_blk ?_
  refine X_seq ?_
  refine T_seq ?_
  refine T_region ?_
  refine S_val rfl rfl (Y_move rfl) ?_
  refine S_val rfl rfl (Y_move rfl) ?_
  refine S_val rfl rfl (Y_move rfl) ?_
  refine S_val rfl rfl (Y_subU rfl rfl (nat_cast _) (nat_cast _) rfl (by assumption) (by simp only [IntKind.bits]; assumption)) ?_
  refine S_val rfl rfl (Y_assign rfl) ?_
  refine S_val rfl rfl (Y_assign rfl) ?_
  refine S_val rfl rfl (Y_assign rfl) ?_
  refine S_nil ?_
  refine X_seq ?_
  refine T_ret ?_
  ((first | refine X_fin_ret ?_ | refine X_fin ?_); exact ⟨[_, _, _], [_], .cons (.tmp rfl) (.cons (.tmp rfl) (.cons (.tmp rfl) .nil)), Emb.one 0 rfl, ⟨_, rfl, rfl⟩⟩)
end Go.Proofs.YtchoncjikdfbgaaDoor
