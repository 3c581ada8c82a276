import Derived.Test.YtchoncjikdfbgaaDoorGas3
/- The reference of layer 9: what an input costs. -/
namespace Go.Proofs.YtchoncjikdfbgaaDoor
open Go.RowKit
set_option maxRecDepth 20000
set_option maxHeartbeats 4000000

theorem rgas_none (n x : Nat) (hx : x < 256 ^ n) (hn : n ≤ 1000000) (v : Value) (w : World) (hr : Rd w v .u8 (bel n x)) (h : (lenN n x 0 = 0 ∧ lenN n x 2 = 0) ∨ ¬ (lenN n x 0 < 18446744073709551616 ∧ lenN n x 1 < 18446744073709551616 ∧ lenN n x 2 < 18446744073709551616)) :
    Fn Tryd.prog 16 #[v] w fun u N => u = .int .u64 ((gasN n x : Nat) : Int) ∧ N = [] := by
  have lb := fun w h => rlength_any n x 0 hx hn (by omega) v w h
  have le := fun w h => rlength_any n x 1 hx hn (by omega) v w h
  have lm := fun w h => rlength_any n x 2 hx hn (by omega) v w h
  have hg : gasN n x = if lenN n x 0 = 0 ∧ lenN n x 2 = 0 then 200 else if lenN n x 0 < 18446744073709551616 ∧ lenN n x 1 < 18446744073709551616 ∧ lenN n x 2 < 18446744073709551616 then
    min (max (wN (lenN n x 0) (lenN n x 2) * wN (lenN n x 0) (lenN n x 2) * cntN (headN n x) (lenN n x 1) / 3) 200) 18446744073709551615 else 18446744073709551615 := rfl
  generalize gasN n x = g at *
  generalize headN n x = hd at *
  generalize lenN n x 0 = b at *
  generalize lenN n x 1 = e at *
  generalize lenN n x 2 = m at *
  by_cases h1 : b = 0 ∧ m = 0
  · obtain ⟨h1, h2⟩ := h1
    rw [if_pos ⟨h1, h2⟩] at hg
    rw [if_pos (by omega), decide_eq_true (by omega)] at lb
    rw [if_pos (by omega), decide_eq_true (by omega)] at lm
    generalize decide (e < 18446744073709551616) = be at *
    generalize (if e < 18446744073709551616 then e else 0) = e2 at *
    clear h
    subst hg
    refine Fn_of (args := [v]) Tryd.func16 rfl Tryd.ntmps16 Tryd.results16 (by simp) ?_
    refine T_seq ?_
    refine T_region ?_
    refine S_val rfl rfl (Y_assign rfl) ?_
    refine S_nil ?_
    refine X_seq ?_
    refine T_seq ?_
    refine T_region ?_
    refine S_val rfl rfl (Y_assign rfl) ?_
    refine S_nil ?_
    refine X_seq ?_
    refine T_seq ?_
    refine T_region ?_
    refine S_val rfl rfl (Y_move rfl) ?_
    refine S_callV rfl rfl (bod rfl) (fun w hs => lb _ (by first | exact hs.rowRd 0 rfl | exact hs.rowRd 1 rfl | exact hs.rowRd 2 rfl | exact hs.rowRd 3 rfl | exact hs.rowRd 4 rfl | exact hs.rowRd 5 rfl | exact hs.rowRd 6 rfl | exact hs.rowRd 7 rfl | exact hs.rowRd 8 rfl | exact hs.rowRd 9 rfl | exact hs.rowRd 10 rfl | exact hs.rowRd 11 rfl | exact hs.rowRd 12 rfl | exact hs.rowRd 13 rfl | exact Rd.st (by assumption) hs)) rfl rfl ?_
    refine S_val rfl rfl (Y_move rfl) ?_
    refine S_val rfl rfl (Y_extract rfl rfl) ?_
    refine S_val rfl rfl (Y_extract rfl rfl) ?_
    refine S_val rfl rfl (Y_assign rfl) ?_
    refine S_val rfl rfl (Y_assign rfl) ?_
    refine S_nil ?_
    refine X_seq ?_
    refine T_seq ?_
    refine T_region ?_
    refine S_val rfl rfl (Y_move rfl) ?_
    refine S_callV rfl rfl (bod rfl) (fun w hs => le _ (by first | exact hs.rowRd 0 rfl | exact hs.rowRd 1 rfl | exact hs.rowRd 2 rfl | exact hs.rowRd 3 rfl | exact hs.rowRd 4 rfl | exact hs.rowRd 5 rfl | exact hs.rowRd 6 rfl | exact hs.rowRd 7 rfl | exact hs.rowRd 8 rfl | exact hs.rowRd 9 rfl | exact hs.rowRd 10 rfl | exact hs.rowRd 11 rfl | exact hs.rowRd 12 rfl | exact hs.rowRd 13 rfl | exact Rd.st (by assumption) hs)) rfl rfl ?_
    refine S_val rfl rfl (Y_move rfl) ?_
    refine S_val rfl rfl (Y_extract rfl rfl) ?_
    refine S_val rfl rfl (Y_extract rfl rfl) ?_
    refine S_val rfl rfl (Y_assign rfl) ?_
    refine S_val rfl rfl (Y_assign rfl) ?_
    refine S_nil ?_
    refine X_seq ?_
    refine T_seq ?_
    refine T_region ?_
    refine S_val rfl rfl (Y_move rfl) ?_
    refine S_callV rfl rfl (bod rfl) (fun w hs => lm _ (by first | exact hs.rowRd 0 rfl | exact hs.rowRd 1 rfl | exact hs.rowRd 2 rfl | exact hs.rowRd 3 rfl | exact hs.rowRd 4 rfl | exact hs.rowRd 5 rfl | exact hs.rowRd 6 rfl | exact hs.rowRd 7 rfl | exact hs.rowRd 8 rfl | exact hs.rowRd 9 rfl | exact hs.rowRd 10 rfl | exact hs.rowRd 11 rfl | exact hs.rowRd 12 rfl | exact hs.rowRd 13 rfl | exact Rd.st (by assumption) hs)) rfl rfl ?_
    refine S_val rfl rfl (Y_move rfl) ?_
    refine S_val rfl rfl (Y_extract rfl rfl) ?_
    refine S_val rfl rfl (Y_extract rfl rfl) ?_
    refine S_val rfl rfl (Y_assign rfl) ?_
    refine S_val rfl rfl (Y_assign rfl) ?_
    refine S_nil ?_
    refine X_seq ?_
    refine T_seq ?_
    refine T_seq ?_
    refine T_region ?_
    refine S_val rfl rfl (Y_move rfl) ?_
    refine S_val rfl rfl (Y_move rfl) ?_
    refine S_val rfl rfl (Y_move rfl) ?_
    refine S_val rfl rfl (Y_pick_t rfl rfl) ?_
    refine S_val rfl rfl (Y_move rfl) ?_
    refine S_val rfl rfl (Y_move rfl) ?_
    refine S_val rfl rfl (Y_eql_t rfl rfl (by omega)) ?_
    refine S_val rfl rfl (Y_pick_t rfl rfl) ?_
    refine S_val rfl rfl (Y_move rfl) ?_
    refine S_val rfl rfl (Y_move rfl) ?_
    refine S_val rfl rfl (Y_eql_t rfl rfl (by omega)) ?_
    refine S_val rfl rfl (Y_pick_t rfl rfl) ?_
    refine S_nil ?_
    refine X_seq ?_
    refine T_cond_true rfl ?_
    refine T_seq ?_
    refine T_region ?_
    refine S_val rfl rfl (Y_assign rfl) ?_
    refine S_nil ?_
    refine X_seq ?_
    refine T_ret ?_
    refine X_seq_ret ?_
    ((first | refine X_fin_ret ?_ | refine X_fin ?_); exact ⟨[_], [], .cons (.tmp rfl) .nil, Emb.nil _, rfl, rfl⟩)
  · rw [if_neg h1, if_neg (by omega)] at hg
    subst hg
    by_cases hb : b < 18446744073709551616
    · rw [if_pos hb, decide_eq_true hb] at lb
      by_cases hm : m < 18446744073709551616
      · rw [if_pos hm, decide_eq_true hm] at lm
        have he : ¬ e < 18446744073709551616 := by omega
        rw [if_neg he, decide_eq_false he] at le
        clear h
        by_cases hb0 : b = 0
        · have hm0 : ¬ m = 0 := by omega
          refine Fn_of (args := [v]) Tryd.func16 rfl Tryd.ntmps16 Tryd.results16 (by simp) ?_
          refine T_seq ?_
          refine T_region ?_
          refine S_val rfl rfl (Y_assign rfl) ?_
          refine S_nil ?_
          refine X_seq ?_
          refine T_seq ?_
          refine T_region ?_
          refine S_val rfl rfl (Y_assign rfl) ?_
          refine S_nil ?_
          refine X_seq ?_
          refine T_seq ?_
          refine T_region ?_
          refine S_val rfl rfl (Y_move rfl) ?_
          refine S_callV rfl rfl (bod rfl) (fun w hs => lb _ (by first | exact hs.rowRd 0 rfl | exact hs.rowRd 1 rfl | exact hs.rowRd 2 rfl | exact hs.rowRd 3 rfl | exact hs.rowRd 4 rfl | exact hs.rowRd 5 rfl | exact hs.rowRd 6 rfl | exact hs.rowRd 7 rfl | exact hs.rowRd 8 rfl | exact hs.rowRd 9 rfl | exact hs.rowRd 10 rfl | exact hs.rowRd 11 rfl | exact hs.rowRd 12 rfl | exact hs.rowRd 13 rfl | exact Rd.st (by assumption) hs)) rfl rfl ?_
          refine S_val rfl rfl (Y_move rfl) ?_
          refine S_val rfl rfl (Y_extract rfl rfl) ?_
          refine S_val rfl rfl (Y_extract rfl rfl) ?_
          refine S_val rfl rfl (Y_assign rfl) ?_
          refine S_val rfl rfl (Y_assign rfl) ?_
          refine S_nil ?_
          refine X_seq ?_
          refine T_seq ?_
          refine T_region ?_
          refine S_val rfl rfl (Y_move rfl) ?_
          refine S_callV rfl rfl (bod rfl) (fun w hs => le _ (by first | exact hs.rowRd 0 rfl | exact hs.rowRd 1 rfl | exact hs.rowRd 2 rfl | exact hs.rowRd 3 rfl | exact hs.rowRd 4 rfl | exact hs.rowRd 5 rfl | exact hs.rowRd 6 rfl | exact hs.rowRd 7 rfl | exact hs.rowRd 8 rfl | exact hs.rowRd 9 rfl | exact hs.rowRd 10 rfl | exact hs.rowRd 11 rfl | exact hs.rowRd 12 rfl | exact hs.rowRd 13 rfl | exact Rd.st (by assumption) hs)) rfl rfl ?_
          refine S_val rfl rfl (Y_move rfl) ?_
          refine S_val rfl rfl (Y_extract rfl rfl) ?_
          refine S_val rfl rfl (Y_extract rfl rfl) ?_
          refine S_val rfl rfl (Y_assign rfl) ?_
          refine S_val rfl rfl (Y_assign rfl) ?_
          refine S_nil ?_
          refine X_seq ?_
          refine T_seq ?_
          refine T_region ?_
          refine S_val rfl rfl (Y_move rfl) ?_
          refine S_callV rfl rfl (bod rfl) (fun w hs => lm _ (by first | exact hs.rowRd 0 rfl | exact hs.rowRd 1 rfl | exact hs.rowRd 2 rfl | exact hs.rowRd 3 rfl | exact hs.rowRd 4 rfl | exact hs.rowRd 5 rfl | exact hs.rowRd 6 rfl | exact hs.rowRd 7 rfl | exact hs.rowRd 8 rfl | exact hs.rowRd 9 rfl | exact hs.rowRd 10 rfl | exact hs.rowRd 11 rfl | exact hs.rowRd 12 rfl | exact hs.rowRd 13 rfl | exact Rd.st (by assumption) hs)) rfl rfl ?_
          refine S_val rfl rfl (Y_move rfl) ?_
          refine S_val rfl rfl (Y_extract rfl rfl) ?_
          refine S_val rfl rfl (Y_extract rfl rfl) ?_
          refine S_val rfl rfl (Y_assign rfl) ?_
          refine S_val rfl rfl (Y_assign rfl) ?_
          refine S_nil ?_
          refine X_seq ?_
          refine T_seq ?_
          refine T_seq ?_
          refine T_region ?_
          refine S_val rfl rfl (Y_move rfl) ?_
          refine S_val rfl rfl (Y_move rfl) ?_
          refine S_val rfl rfl (Y_move rfl) ?_
          refine S_val rfl rfl (Y_pick_t rfl rfl) ?_
          refine S_val rfl rfl (Y_move rfl) ?_
          refine S_val rfl rfl (Y_move rfl) ?_
          refine S_val rfl rfl (Y_eql_t rfl rfl (by omega)) ?_
          refine S_val rfl rfl (Y_pick_t rfl rfl) ?_
          refine S_val rfl rfl (Y_move rfl) ?_
          refine S_val rfl rfl (Y_move rfl) ?_
          refine S_val rfl rfl (Y_eql_f rfl rfl (by omega)) ?_
          refine S_val rfl rfl (Y_pick_t rfl rfl) ?_
          refine S_nil ?_
          refine X_seq ?_
          refine T_cond_false rfl ?_
          refine T_skip ?_
          refine X_seq ?_
          refine T_seq ?_
          refine T_seq ?_
          refine T_region ?_
          refine S_val rfl rfl (Y_move rfl) ?_
          refine S_val rfl rfl (Y_not rfl rfl) ?_
          refine S_val rfl rfl (Y_move rfl) ?_
          refine S_val rfl rfl (Y_move rfl) ?_
          refine S_val rfl rfl (Y_not rfl rfl) ?_
          refine S_val rfl rfl (Y_pick_f rfl rfl) ?_
          refine S_val rfl rfl (Y_move rfl) ?_
          refine S_skip rfl rfl ?_
          refine S_skip rfl rfl ?_
          refine S_val rfl rfl (Y_pick_t rfl rfl) ?_
          refine S_nil ?_
          refine X_seq ?_
          refine T_cond_true rfl ?_
          refine T_seq ?_
          refine T_region ?_
          refine S_val rfl rfl (Y_move rfl) ?_
          refine S_val rfl rfl (Y_assign rfl) ?_
          refine S_nil ?_
          refine X_seq ?_
          refine T_ret ?_
          refine X_seq_ret ?_
          ((first | refine X_fin_ret ?_ | refine X_fin ?_); exact ⟨[_], [], .cons (.tmp rfl) .nil, Emb.nil _, rfl, rfl⟩)
        · skip
          refine Fn_of (args := [v]) Tryd.func16 rfl Tryd.ntmps16 Tryd.results16 (by simp) ?_
          refine T_seq ?_
          refine T_region ?_
          refine S_val rfl rfl (Y_assign rfl) ?_
          refine S_nil ?_
          refine X_seq ?_
          refine T_seq ?_
          refine T_region ?_
          refine S_val rfl rfl (Y_assign rfl) ?_
          refine S_nil ?_
          refine X_seq ?_
          refine T_seq ?_
          refine T_region ?_
          refine S_val rfl rfl (Y_move rfl) ?_
          refine S_callV rfl rfl (bod rfl) (fun w hs => lb _ (by first | exact hs.rowRd 0 rfl | exact hs.rowRd 1 rfl | exact hs.rowRd 2 rfl | exact hs.rowRd 3 rfl | exact hs.rowRd 4 rfl | exact hs.rowRd 5 rfl | exact hs.rowRd 6 rfl | exact hs.rowRd 7 rfl | exact hs.rowRd 8 rfl | exact hs.rowRd 9 rfl | exact hs.rowRd 10 rfl | exact hs.rowRd 11 rfl | exact hs.rowRd 12 rfl | exact hs.rowRd 13 rfl | exact Rd.st (by assumption) hs)) rfl rfl ?_
          refine S_val rfl rfl (Y_move rfl) ?_
          refine S_val rfl rfl (Y_extract rfl rfl) ?_
          refine S_val rfl rfl (Y_extract rfl rfl) ?_
          refine S_val rfl rfl (Y_assign rfl) ?_
          refine S_val rfl rfl (Y_assign rfl) ?_
          refine S_nil ?_
          refine X_seq ?_
          refine T_seq ?_
          refine T_region ?_
          refine S_val rfl rfl (Y_move rfl) ?_
          refine S_callV rfl rfl (bod rfl) (fun w hs => le _ (by first | exact hs.rowRd 0 rfl | exact hs.rowRd 1 rfl | exact hs.rowRd 2 rfl | exact hs.rowRd 3 rfl | exact hs.rowRd 4 rfl | exact hs.rowRd 5 rfl | exact hs.rowRd 6 rfl | exact hs.rowRd 7 rfl | exact hs.rowRd 8 rfl | exact hs.rowRd 9 rfl | exact hs.rowRd 10 rfl | exact hs.rowRd 11 rfl | exact hs.rowRd 12 rfl | exact hs.rowRd 13 rfl | exact Rd.st (by assumption) hs)) rfl rfl ?_
          refine S_val rfl rfl (Y_move rfl) ?_
          refine S_val rfl rfl (Y_extract rfl rfl) ?_
          refine S_val rfl rfl (Y_extract rfl rfl) ?_
          refine S_val rfl rfl (Y_assign rfl) ?_
          refine S_val rfl rfl (Y_assign rfl) ?_
          refine S_nil ?_
          refine X_seq ?_
          refine T_seq ?_
          refine T_region ?_
          refine S_val rfl rfl (Y_move rfl) ?_
          refine S_callV rfl rfl (bod rfl) (fun w hs => lm _ (by first | exact hs.rowRd 0 rfl | exact hs.rowRd 1 rfl | exact hs.rowRd 2 rfl | exact hs.rowRd 3 rfl | exact hs.rowRd 4 rfl | exact hs.rowRd 5 rfl | exact hs.rowRd 6 rfl | exact hs.rowRd 7 rfl | exact hs.rowRd 8 rfl | exact hs.rowRd 9 rfl | exact hs.rowRd 10 rfl | exact hs.rowRd 11 rfl | exact hs.rowRd 12 rfl | exact hs.rowRd 13 rfl | exact Rd.st (by assumption) hs)) rfl rfl ?_
          refine S_val rfl rfl (Y_move rfl) ?_
          refine S_val rfl rfl (Y_extract rfl rfl) ?_
          refine S_val rfl rfl (Y_extract rfl rfl) ?_
          refine S_val rfl rfl (Y_assign rfl) ?_
          refine S_val rfl rfl (Y_assign rfl) ?_
          refine S_nil ?_
          refine X_seq ?_
          refine T_seq ?_
          refine T_seq ?_
          refine T_region ?_
          refine S_val rfl rfl (Y_move rfl) ?_
          refine S_val rfl rfl (Y_move rfl) ?_
          refine S_val rfl rfl (Y_move rfl) ?_
          refine S_val rfl rfl (Y_pick_t rfl rfl) ?_
          refine S_val rfl rfl (Y_move rfl) ?_
          refine S_val rfl rfl (Y_move rfl) ?_
          refine S_val rfl rfl (Y_eql_f rfl rfl (by omega)) ?_
          refine S_val rfl rfl (Y_pick_t rfl rfl) ?_
          refine S_val rfl rfl (Y_move rfl) ?_
          refine S_skip rfl rfl ?_
          refine S_skip rfl rfl ?_
          refine S_val rfl rfl (Y_pick_f rfl rfl) ?_
          refine S_nil ?_
          refine X_seq ?_
          refine T_cond_false rfl ?_
          refine T_skip ?_
          refine X_seq ?_
          refine T_seq ?_
          refine T_seq ?_
          refine T_region ?_
          refine S_val rfl rfl (Y_move rfl) ?_
          refine S_val rfl rfl (Y_not rfl rfl) ?_
          refine S_val rfl rfl (Y_move rfl) ?_
          refine S_val rfl rfl (Y_move rfl) ?_
          refine S_val rfl rfl (Y_not rfl rfl) ?_
          refine S_val rfl rfl (Y_pick_f rfl rfl) ?_
          refine S_val rfl rfl (Y_move rfl) ?_
          refine S_skip rfl rfl ?_
          refine S_skip rfl rfl ?_
          refine S_val rfl rfl (Y_pick_t rfl rfl) ?_
          refine S_nil ?_
          refine X_seq ?_
          refine T_cond_true rfl ?_
          refine T_seq ?_
          refine T_region ?_
          refine S_val rfl rfl (Y_move rfl) ?_
          refine S_val rfl rfl (Y_assign rfl) ?_
          refine S_nil ?_
          refine X_seq ?_
          refine T_ret ?_
          refine X_seq_ret ?_
          ((first | refine X_fin_ret ?_ | refine X_fin ?_); exact ⟨[_], [], .cons (.tmp rfl) .nil, Emb.nil _, rfl, rfl⟩)
      · rw [if_neg hm, decide_eq_false hm] at lm
        by_cases he : e < 18446744073709551616
        · rw [if_pos he, decide_eq_true he] at le
          clear h h1
          refine Fn_of (args := [v]) Tryd.func16 rfl Tryd.ntmps16 Tryd.results16 (by simp) ?_
          refine T_seq ?_
          refine T_region ?_
          refine S_val rfl rfl (Y_assign rfl) ?_
          refine S_nil ?_
          refine X_seq ?_
          refine T_seq ?_
          refine T_region ?_
          refine S_val rfl rfl (Y_assign rfl) ?_
          refine S_nil ?_
          refine X_seq ?_
          refine T_seq ?_
          refine T_region ?_
          refine S_val rfl rfl (Y_move rfl) ?_
          refine S_callV rfl rfl (bod rfl) (fun w hs => lb _ (by first | exact hs.rowRd 0 rfl | exact hs.rowRd 1 rfl | exact hs.rowRd 2 rfl | exact hs.rowRd 3 rfl | exact hs.rowRd 4 rfl | exact hs.rowRd 5 rfl | exact hs.rowRd 6 rfl | exact hs.rowRd 7 rfl | exact hs.rowRd 8 rfl | exact hs.rowRd 9 rfl | exact hs.rowRd 10 rfl | exact hs.rowRd 11 rfl | exact hs.rowRd 12 rfl | exact hs.rowRd 13 rfl | exact Rd.st (by assumption) hs)) rfl rfl ?_
          refine S_val rfl rfl (Y_move rfl) ?_
          refine S_val rfl rfl (Y_extract rfl rfl) ?_
          refine S_val rfl rfl (Y_extract rfl rfl) ?_
          refine S_val rfl rfl (Y_assign rfl) ?_
          refine S_val rfl rfl (Y_assign rfl) ?_
          refine S_nil ?_
          refine X_seq ?_
          refine T_seq ?_
          refine T_region ?_
          refine S_val rfl rfl (Y_move rfl) ?_
          refine S_callV rfl rfl (bod rfl) (fun w hs => le _ (by first | exact hs.rowRd 0 rfl | exact hs.rowRd 1 rfl | exact hs.rowRd 2 rfl | exact hs.rowRd 3 rfl | exact hs.rowRd 4 rfl | exact hs.rowRd 5 rfl | exact hs.rowRd 6 rfl | exact hs.rowRd 7 rfl | exact hs.rowRd 8 rfl | exact hs.rowRd 9 rfl | exact hs.rowRd 10 rfl | exact hs.rowRd 11 rfl | exact hs.rowRd 12 rfl | exact hs.rowRd 13 rfl | exact Rd.st (by assumption) hs)) rfl rfl ?_
          refine S_val rfl rfl (Y_move rfl) ?_
          refine S_val rfl rfl (Y_extract rfl rfl) ?_
          refine S_val rfl rfl (Y_extract rfl rfl) ?_
          refine S_val rfl rfl (Y_assign rfl) ?_
          refine S_val rfl rfl (Y_assign rfl) ?_
          refine S_nil ?_
          refine X_seq ?_
          refine T_seq ?_
          refine T_region ?_
          refine S_val rfl rfl (Y_move rfl) ?_
          refine S_callV rfl rfl (bod rfl) (fun w hs => lm _ (by first | exact hs.rowRd 0 rfl | exact hs.rowRd 1 rfl | exact hs.rowRd 2 rfl | exact hs.rowRd 3 rfl | exact hs.rowRd 4 rfl | exact hs.rowRd 5 rfl | exact hs.rowRd 6 rfl | exact hs.rowRd 7 rfl | exact hs.rowRd 8 rfl | exact hs.rowRd 9 rfl | exact hs.rowRd 10 rfl | exact hs.rowRd 11 rfl | exact hs.rowRd 12 rfl | exact hs.rowRd 13 rfl | exact Rd.st (by assumption) hs)) rfl rfl ?_
          refine S_val rfl rfl (Y_move rfl) ?_
          refine S_val rfl rfl (Y_extract rfl rfl) ?_
          refine S_val rfl rfl (Y_extract rfl rfl) ?_
          refine S_val rfl rfl (Y_assign rfl) ?_
          refine S_val rfl rfl (Y_assign rfl) ?_
          refine S_nil ?_
          refine X_seq ?_
          refine T_seq ?_
          refine T_seq ?_
          refine T_region ?_
          refine S_val rfl rfl (Y_move rfl) ?_
          refine S_val rfl rfl (Y_move rfl) ?_
          refine S_val rfl rfl (Y_move rfl) ?_
          refine S_val rfl rfl (Y_pick_t rfl rfl) ?_
          refine S_val rfl rfl (Y_move rfl) ?_
          refine S_skip rfl rfl ?_
          refine S_skip rfl rfl ?_
          refine S_val rfl rfl (Y_pick_f rfl rfl) ?_
          refine S_val rfl rfl (Y_move rfl) ?_
          refine S_skip rfl rfl ?_
          refine S_skip rfl rfl ?_
          refine S_val rfl rfl (Y_pick_f rfl rfl) ?_
          refine S_nil ?_
          refine X_seq ?_
          refine T_cond_false rfl ?_
          refine T_skip ?_
          refine X_seq ?_
          refine T_seq ?_
          refine T_seq ?_
          refine T_region ?_
          refine S_val rfl rfl (Y_move rfl) ?_
          refine S_val rfl rfl (Y_not rfl rfl) ?_
          refine S_val rfl rfl (Y_move rfl) ?_
          refine S_val rfl rfl (Y_move rfl) ?_
          refine S_val rfl rfl (Y_not rfl rfl) ?_
          refine S_val rfl rfl (Y_pick_f rfl rfl) ?_
          refine S_val rfl rfl (Y_move rfl) ?_
          refine S_val rfl rfl (Y_move rfl) ?_
          refine S_val rfl rfl (Y_not rfl rfl) ?_
          refine S_val rfl rfl (Y_pick_f rfl rfl) ?_
          refine S_nil ?_
          refine X_seq ?_
          refine T_cond_true rfl ?_
          refine T_seq ?_
          refine T_region ?_
          refine S_val rfl rfl (Y_move rfl) ?_
          refine S_val rfl rfl (Y_assign rfl) ?_
          refine S_nil ?_
          refine X_seq ?_
          refine T_ret ?_
          refine X_seq_ret ?_
          ((first | refine X_fin_ret ?_ | refine X_fin ?_); exact ⟨[_], [], .cons (.tmp rfl) .nil, Emb.nil _, rfl, rfl⟩)
        · rw [if_neg he, decide_eq_false he] at le
          clear h h1
          refine Fn_of (args := [v]) Tryd.func16 rfl Tryd.ntmps16 Tryd.results16 (by simp) ?_
          refine T_seq ?_
          refine T_region ?_
          refine S_val rfl rfl (Y_assign rfl) ?_
          refine S_nil ?_
          refine X_seq ?_
          refine T_seq ?_
          refine T_region ?_
          refine S_val rfl rfl (Y_assign rfl) ?_
          refine S_nil ?_
          refine X_seq ?_
          refine T_seq ?_
          refine T_region ?_
          refine S_val rfl rfl (Y_move rfl) ?_
          refine S_callV rfl rfl (bod rfl) (fun w hs => lb _ (by first | exact hs.rowRd 0 rfl | exact hs.rowRd 1 rfl | exact hs.rowRd 2 rfl | exact hs.rowRd 3 rfl | exact hs.rowRd 4 rfl | exact hs.rowRd 5 rfl | exact hs.rowRd 6 rfl | exact hs.rowRd 7 rfl | exact hs.rowRd 8 rfl | exact hs.rowRd 9 rfl | exact hs.rowRd 10 rfl | exact hs.rowRd 11 rfl | exact hs.rowRd 12 rfl | exact hs.rowRd 13 rfl | exact Rd.st (by assumption) hs)) rfl rfl ?_
          refine S_val rfl rfl (Y_move rfl) ?_
          refine S_val rfl rfl (Y_extract rfl rfl) ?_
          refine S_val rfl rfl (Y_extract rfl rfl) ?_
          refine S_val rfl rfl (Y_assign rfl) ?_
          refine S_val rfl rfl (Y_assign rfl) ?_
          refine S_nil ?_
          refine X_seq ?_
          refine T_seq ?_
          refine T_region ?_
          refine S_val rfl rfl (Y_move rfl) ?_
          refine S_callV rfl rfl (bod rfl) (fun w hs => le _ (by first | exact hs.rowRd 0 rfl | exact hs.rowRd 1 rfl | exact hs.rowRd 2 rfl | exact hs.rowRd 3 rfl | exact hs.rowRd 4 rfl | exact hs.rowRd 5 rfl | exact hs.rowRd 6 rfl | exact hs.rowRd 7 rfl | exact hs.rowRd 8 rfl | exact hs.rowRd 9 rfl | exact hs.rowRd 10 rfl | exact hs.rowRd 11 rfl | exact hs.rowRd 12 rfl | exact hs.rowRd 13 rfl | exact Rd.st (by assumption) hs)) rfl rfl ?_
          refine S_val rfl rfl (Y_move rfl) ?_
          refine S_val rfl rfl (Y_extract rfl rfl) ?_
          refine S_val rfl rfl (Y_extract rfl rfl) ?_
          refine S_val rfl rfl (Y_assign rfl) ?_
          refine S_val rfl rfl (Y_assign rfl) ?_
          refine S_nil ?_
          refine X_seq ?_
          refine T_seq ?_
          refine T_region ?_
          refine S_val rfl rfl (Y_move rfl) ?_
          refine S_callV rfl rfl (bod rfl) (fun w hs => lm _ (by first | exact hs.rowRd 0 rfl | exact hs.rowRd 1 rfl | exact hs.rowRd 2 rfl | exact hs.rowRd 3 rfl | exact hs.rowRd 4 rfl | exact hs.rowRd 5 rfl | exact hs.rowRd 6 rfl | exact hs.rowRd 7 rfl | exact hs.rowRd 8 rfl | exact hs.rowRd 9 rfl | exact hs.rowRd 10 rfl | exact hs.rowRd 11 rfl | exact hs.rowRd 12 rfl | exact hs.rowRd 13 rfl | exact Rd.st (by assumption) hs)) rfl rfl ?_
          refine S_val rfl rfl (Y_move rfl) ?_
          refine S_val rfl rfl (Y_extract rfl rfl) ?_
          refine S_val rfl rfl (Y_extract rfl rfl) ?_
          refine S_val rfl rfl (Y_assign rfl) ?_
          refine S_val rfl rfl (Y_assign rfl) ?_
          refine S_nil ?_
          refine X_seq ?_
          refine T_seq ?_
          refine T_seq ?_
          refine T_region ?_
          refine S_val rfl rfl (Y_move rfl) ?_
          refine S_val rfl rfl (Y_move rfl) ?_
          refine S_val rfl rfl (Y_move rfl) ?_
          refine S_val rfl rfl (Y_pick_t rfl rfl) ?_
          refine S_val rfl rfl (Y_move rfl) ?_
          refine S_skip rfl rfl ?_
          refine S_skip rfl rfl ?_
          refine S_val rfl rfl (Y_pick_f rfl rfl) ?_
          refine S_val rfl rfl (Y_move rfl) ?_
          refine S_skip rfl rfl ?_
          refine S_skip rfl rfl ?_
          refine S_val rfl rfl (Y_pick_f rfl rfl) ?_
          refine S_nil ?_
          refine X_seq ?_
          refine T_cond_false rfl ?_
          refine T_skip ?_
          refine X_seq ?_
          refine T_seq ?_
          refine T_seq ?_
          refine T_region ?_
          refine S_val rfl rfl (Y_move rfl) ?_
          refine S_val rfl rfl (Y_not rfl rfl) ?_
          refine S_val rfl rfl (Y_move rfl) ?_
          refine S_val rfl rfl (Y_move rfl) ?_
          refine S_val rfl rfl (Y_not rfl rfl) ?_
          refine S_val rfl rfl (Y_pick_f rfl rfl) ?_
          refine S_val rfl rfl (Y_move rfl) ?_
          refine S_skip rfl rfl ?_
          refine S_skip rfl rfl ?_
          refine S_val rfl rfl (Y_pick_t rfl rfl) ?_
          refine S_nil ?_
          refine X_seq ?_
          refine T_cond_true rfl ?_
          refine T_seq ?_
          refine T_region ?_
          refine S_val rfl rfl (Y_move rfl) ?_
          refine S_val rfl rfl (Y_assign rfl) ?_
          refine S_nil ?_
          refine X_seq ?_
          refine T_ret ?_
          refine X_seq_ret ?_
          ((first | refine X_fin_ret ?_ | refine X_fin ?_); exact ⟨[_], [], .cons (.tmp rfl) .nil, Emb.nil _, rfl, rfl⟩)
    · rw [if_neg hb, decide_eq_false hb] at lb
      clear h h1
      generalize decide (e < 18446744073709551616) = be at *
      generalize (if e < 18446744073709551616 then e else 0) = e2 at *
      generalize decide (m < 18446744073709551616) = bm at *
      generalize (if m < 18446744073709551616 then m else 0) = m2 at *
      refine Fn_of (args := [v]) Tryd.func16 rfl Tryd.ntmps16 Tryd.results16 (by simp) ?_
      refine T_seq ?_
      refine T_region ?_
      refine S_val rfl rfl (Y_assign rfl) ?_
      refine S_nil ?_
      refine X_seq ?_
      refine T_seq ?_
      refine T_region ?_
      refine S_val rfl rfl (Y_assign rfl) ?_
      refine S_nil ?_
      refine X_seq ?_
      refine T_seq ?_
      refine T_region ?_
      refine S_val rfl rfl (Y_move rfl) ?_
      refine S_callV rfl rfl (bod rfl) (fun w hs => lb _ (by first | exact hs.rowRd 0 rfl | exact hs.rowRd 1 rfl | exact hs.rowRd 2 rfl | exact hs.rowRd 3 rfl | exact hs.rowRd 4 rfl | exact hs.rowRd 5 rfl | exact hs.rowRd 6 rfl | exact hs.rowRd 7 rfl | exact hs.rowRd 8 rfl | exact hs.rowRd 9 rfl | exact hs.rowRd 10 rfl | exact hs.rowRd 11 rfl | exact hs.rowRd 12 rfl | exact hs.rowRd 13 rfl | exact Rd.st (by assumption) hs)) rfl rfl ?_
      refine S_val rfl rfl (Y_move rfl) ?_
      refine S_val rfl rfl (Y_extract rfl rfl) ?_
      refine S_val rfl rfl (Y_extract rfl rfl) ?_
      refine S_val rfl rfl (Y_assign rfl) ?_
      refine S_val rfl rfl (Y_assign rfl) ?_
      refine S_nil ?_
      refine X_seq ?_
      refine T_seq ?_
      refine T_region ?_
      refine S_val rfl rfl (Y_move rfl) ?_
      refine S_callV rfl rfl (bod rfl) (fun w hs => le _ (by first | exact hs.rowRd 0 rfl | exact hs.rowRd 1 rfl | exact hs.rowRd 2 rfl | exact hs.rowRd 3 rfl | exact hs.rowRd 4 rfl | exact hs.rowRd 5 rfl | exact hs.rowRd 6 rfl | exact hs.rowRd 7 rfl | exact hs.rowRd 8 rfl | exact hs.rowRd 9 rfl | exact hs.rowRd 10 rfl | exact hs.rowRd 11 rfl | exact hs.rowRd 12 rfl | exact hs.rowRd 13 rfl | exact Rd.st (by assumption) hs)) rfl rfl ?_
      refine S_val rfl rfl (Y_move rfl) ?_
      refine S_val rfl rfl (Y_extract rfl rfl) ?_
      refine S_val rfl rfl (Y_extract rfl rfl) ?_
      refine S_val rfl rfl (Y_assign rfl) ?_
      refine S_val rfl rfl (Y_assign rfl) ?_
      refine S_nil ?_
      refine X_seq ?_
      refine T_seq ?_
      refine T_region ?_
      refine S_val rfl rfl (Y_move rfl) ?_
      refine S_callV rfl rfl (bod rfl) (fun w hs => lm _ (by first | exact hs.rowRd 0 rfl | exact hs.rowRd 1 rfl | exact hs.rowRd 2 rfl | exact hs.rowRd 3 rfl | exact hs.rowRd 4 rfl | exact hs.rowRd 5 rfl | exact hs.rowRd 6 rfl | exact hs.rowRd 7 rfl | exact hs.rowRd 8 rfl | exact hs.rowRd 9 rfl | exact hs.rowRd 10 rfl | exact hs.rowRd 11 rfl | exact hs.rowRd 12 rfl | exact hs.rowRd 13 rfl | exact Rd.st (by assumption) hs)) rfl rfl ?_
      refine S_val rfl rfl (Y_move rfl) ?_
      refine S_val rfl rfl (Y_extract rfl rfl) ?_
      refine S_val rfl rfl (Y_extract rfl rfl) ?_
      refine S_val rfl rfl (Y_assign rfl) ?_
      refine S_val rfl rfl (Y_assign rfl) ?_
      refine S_nil ?_
      refine X_seq ?_
      refine T_seq ?_
      refine T_seq ?_
      refine T_region ?_
      refine S_val rfl rfl (Y_move rfl) ?_
      refine S_val rfl rfl (Y_move rfl) ?_
      refine S_skip rfl rfl ?_
      refine S_val rfl rfl (Y_pick_f rfl rfl) ?_
      refine S_val rfl rfl (Y_move rfl) ?_
      refine S_skip rfl rfl ?_
      refine S_skip rfl rfl ?_
      refine S_val rfl rfl (Y_pick_f rfl rfl) ?_
      refine S_val rfl rfl (Y_move rfl) ?_
      refine S_skip rfl rfl ?_
      refine S_skip rfl rfl ?_
      refine S_val rfl rfl (Y_pick_f rfl rfl) ?_
      refine S_nil ?_
      refine X_seq ?_
      refine T_cond_false rfl ?_
      refine T_skip ?_
      refine X_seq ?_
      refine T_seq ?_
      refine T_seq ?_
      refine T_region ?_
      refine S_val rfl rfl (Y_move rfl) ?_
      refine S_val rfl rfl (Y_not rfl rfl) ?_
      refine S_val rfl rfl (Y_move rfl) ?_
      refine S_skip rfl rfl ?_
      refine S_skip rfl rfl ?_
      refine S_val rfl rfl (Y_pick_t rfl rfl) ?_
      refine S_val rfl rfl (Y_move rfl) ?_
      refine S_skip rfl rfl ?_
      refine S_skip rfl rfl ?_
      refine S_val rfl rfl (Y_pick_t rfl rfl) ?_
      refine S_nil ?_
      refine X_seq ?_
      refine T_cond_true rfl ?_
      refine T_seq ?_
      refine T_region ?_
      refine S_val rfl rfl (Y_move rfl) ?_
      refine S_val rfl rfl (Y_assign rfl) ?_
      refine S_nil ?_
      refine X_seq ?_
      refine T_ret ?_
      refine X_seq_ret ?_
      ((first | refine X_fin_ret ?_ | refine X_fin ?_); exact ⟨[_], [], .cons (.tmp rfl) .nil, Emb.nil _, rfl, rfl⟩)
theorem rgas_some (n x : Nat) (hx : x < 256 ^ n) (hn : n ≤ 1000000) (v : Value) (w : World) (hr : Rd w v .u8 (bel n x)) (hne : ¬ (lenN n x 0 = 0 ∧ lenN n x 2 = 0)) (hb : lenN n x 0 < 18446744073709551616) (he : lenN n x 1 < 18446744073709551616) (hm : lenN n x 2 < 18446744073709551616) :
    Fn Tryd.prog 16 #[v] w fun u N => u = .int .u64 ((gasN n x : Nat) : Int) ∧ N = [] := by
  have lb := fun w h => rlength_any n x 0 hx hn (by omega) v w h
  have le := fun w h => rlength_any n x 1 hx hn (by omega) v w h
  have lm := fun w h => rlength_any n x 2 hx hn (by omega) v w h
  have hh2 := headN_lt2 n x
  have hh1 := headN_lt n x
  have hf := headN_far (n := n) (x := x)
  have pt := fun at_ hat w h => rpart_any n x at_ (min (lenN n x 1) 32) hx hn hat (by omega) v w h
  have hhd : headN n x = qN n x (96 + lenN n x 0 + min (lenN n x 1) 32) % 256 ^ min (lenN n x 1) 32 := rfl
  have hg : gasN n x = if lenN n x 0 = 0 ∧ lenN n x 2 = 0 then 200 else if lenN n x 0 < 18446744073709551616 ∧ lenN n x 1 < 18446744073709551616 ∧ lenN n x 2 < 18446744073709551616 then
    min (max (wN (lenN n x 0) (lenN n x 2) * wN (lenN n x 0) (lenN n x 2) * cntN (headN n x) (lenN n x 1) / 3) 200) 18446744073709551615 else 18446744073709551615 := rfl
  rw [if_neg hne, if_pos ⟨hb, he, hm⟩] at hg
  rw [if_pos hb, decide_eq_true hb] at lb
  rw [if_pos he, decide_eq_true he] at le
  rw [if_pos hm, decide_eq_true hm] at lm
  generalize gasN n x = g at *
  generalize headN n x = hd at *
  generalize lenN n x 0 = b at *
  generalize lenN n x 1 = e at *
  generalize lenN n x 2 = m at *
  refine Fn_of (args := [v]) Tryd.func16 rfl Tryd.ntmps16 Tryd.results16 (by simp) ?_
  refine T_seq ?_
  refine T_region ?_
  refine S_val rfl rfl (Y_assign rfl) ?_
  refine S_nil ?_
  refine X_seq ?_
  refine T_seq ?_
  refine T_region ?_
  refine S_val rfl rfl (Y_assign rfl) ?_
  refine S_nil ?_
  refine X_seq ?_
  refine T_seq ?_
  refine T_region ?_
  refine S_val rfl rfl (Y_move rfl) ?_
  refine S_callV rfl rfl (bod rfl) (fun w hs => lb _ (by first | exact hs.rowRd 0 rfl | exact hs.rowRd 1 rfl | exact hs.rowRd 2 rfl | exact hs.rowRd 3 rfl | exact hs.rowRd 4 rfl | exact hs.rowRd 5 rfl | exact hs.rowRd 6 rfl | exact hs.rowRd 7 rfl | exact hs.rowRd 8 rfl | exact hs.rowRd 9 rfl | exact hs.rowRd 10 rfl | exact hs.rowRd 11 rfl | exact hs.rowRd 12 rfl | exact hs.rowRd 13 rfl | exact Rd.st (by assumption) hs)) rfl rfl ?_
  refine S_val rfl rfl (Y_move rfl) ?_
  refine S_val rfl rfl (Y_extract rfl rfl) ?_
  refine S_val rfl rfl (Y_extract rfl rfl) ?_
  refine S_val rfl rfl (Y_assign rfl) ?_
  refine S_val rfl rfl (Y_assign rfl) ?_
  refine S_nil ?_
  refine X_seq ?_
  refine T_seq ?_
  refine T_region ?_
  refine S_val rfl rfl (Y_move rfl) ?_
  refine S_callV rfl rfl (bod rfl) (fun w hs => le _ (by first | exact hs.rowRd 0 rfl | exact hs.rowRd 1 rfl | exact hs.rowRd 2 rfl | exact hs.rowRd 3 rfl | exact hs.rowRd 4 rfl | exact hs.rowRd 5 rfl | exact hs.rowRd 6 rfl | exact hs.rowRd 7 rfl | exact hs.rowRd 8 rfl | exact hs.rowRd 9 rfl | exact hs.rowRd 10 rfl | exact hs.rowRd 11 rfl | exact hs.rowRd 12 rfl | exact hs.rowRd 13 rfl | exact Rd.st (by assumption) hs)) rfl rfl ?_
  refine S_val rfl rfl (Y_move rfl) ?_
  refine S_val rfl rfl (Y_extract rfl rfl) ?_
  refine S_val rfl rfl (Y_extract rfl rfl) ?_
  refine S_val rfl rfl (Y_assign rfl) ?_
  refine S_val rfl rfl (Y_assign rfl) ?_
  refine S_nil ?_
  refine X_seq ?_
  refine T_seq ?_
  refine T_region ?_
  refine S_val rfl rfl (Y_move rfl) ?_
  refine S_callV rfl rfl (bod rfl) (fun w hs => lm _ (by first | exact hs.rowRd 0 rfl | exact hs.rowRd 1 rfl | exact hs.rowRd 2 rfl | exact hs.rowRd 3 rfl | exact hs.rowRd 4 rfl | exact hs.rowRd 5 rfl | exact hs.rowRd 6 rfl | exact hs.rowRd 7 rfl | exact hs.rowRd 8 rfl | exact hs.rowRd 9 rfl | exact hs.rowRd 10 rfl | exact hs.rowRd 11 rfl | exact hs.rowRd 12 rfl | exact hs.rowRd 13 rfl | exact Rd.st (by assumption) hs)) rfl rfl ?_
  refine S_val rfl rfl (Y_move rfl) ?_
  refine S_val rfl rfl (Y_extract rfl rfl) ?_
  refine S_val rfl rfl (Y_extract rfl rfl) ?_
  refine S_val rfl rfl (Y_assign rfl) ?_
  refine S_val rfl rfl (Y_assign rfl) ?_
  refine S_nil ?_
  refine X_seq ?_
  refine T_seq ?_
  refine T_cutK (α := Unit) (fun _ => True) (fun _ => [(0, v), (3, .int .u64 18446744073709551615), (4, .int .u64 b), (5, .bool true), (6, .int .u64 e), (7, .bool true), (8, .int .u64 m), (9, .bool true)]) (fun _ => []) ?_ ?_
  · by_cases h1 : b = 0
    · have h2 : ¬ m = 0 := fun h => hne ⟨h1, h⟩
      refine T_seq ?_
      refine T_region ?_
      refine S_val rfl rfl (Y_move rfl) ?_
      refine S_val rfl rfl (Y_move rfl) ?_
      refine S_val rfl rfl (Y_move rfl) ?_
      refine S_val rfl rfl (Y_pick_t rfl rfl) ?_
      refine S_val rfl rfl (Y_move rfl) ?_
      refine S_val rfl rfl (Y_move rfl) ?_
      refine S_val rfl rfl (Y_eql_t rfl rfl (by omega)) ?_
      refine S_val rfl rfl (Y_pick_t rfl rfl) ?_
      refine S_val rfl rfl (Y_move rfl) ?_
      refine S_val rfl rfl (Y_move rfl) ?_
      refine S_val rfl rfl (Y_eql_f rfl rfl (by omega)) ?_
      refine S_val rfl rfl (Y_pick_t rfl rfl) ?_
      refine S_nil ?_
      refine X_seq ?_
      refine T_cond_false rfl ?_
      refine T_skip ?_
      refine X_loop ?_
      exact ⟨(), trivial, (by repeat (first | exact Env.sub_nil _ | (apply Env.sub_cons; rfl))), Emb.nil _⟩
    · refine T_seq ?_
      refine T_region ?_
      refine S_val rfl rfl (Y_move rfl) ?_
      refine S_val rfl rfl (Y_move rfl) ?_
      refine S_val rfl rfl (Y_move rfl) ?_
      refine S_val rfl rfl (Y_pick_t rfl rfl) ?_
      refine S_val rfl rfl (Y_move rfl) ?_
      refine S_val rfl rfl (Y_move rfl) ?_
      refine S_val rfl rfl (Y_eql_f rfl rfl (by omega)) ?_
      refine S_val rfl rfl (Y_pick_t rfl rfl) ?_
      refine S_val rfl rfl (Y_move rfl) ?_
      refine S_skip rfl rfl ?_
      refine S_skip rfl rfl ?_
      refine S_val rfl rfl (Y_pick_f rfl rfl) ?_
      refine S_nil ?_
      refine X_seq ?_
      refine T_cond_false rfl ?_
      refine T_skip ?_
      refine X_loop ?_
      exact ⟨(), trivial, (by repeat (first | exact Env.sub_nil _ | (apply Env.sub_cons; rfl))), Emb.nil _⟩
  · rintro ⟨⟩ _
    clear hne lb le lm
    by_cases h40 : b < 1099511627776
    · have pt2 := pt (96 + b) (by omega)
      have e2 : bel (min e 32) (qN n x (96 + b + min e 32)) = bel (min e 32) hd := by rw [hhd, bel_mod]
      rw [e2] at pt2
      have hj := hh1
      have hj2 : min e 32 ≤ 32 := by omega
      clear pt e2 hh1
      refine T_seq ?_
      refine T_seq ?_
      refine T_region ?_
      refine S_val rfl rfl (Y_move rfl) ?_
      refine S_val rfl rfl (Y_not rfl rfl) ?_
      refine S_val rfl rfl (Y_move rfl) ?_
      refine S_val rfl rfl (Y_move rfl) ?_
      refine S_val rfl rfl (Y_not rfl rfl) ?_
      refine S_val rfl rfl (Y_pick_f rfl rfl) ?_
      refine S_val rfl rfl (Y_move rfl) ?_
      refine S_val rfl rfl (Y_move rfl) ?_
      refine S_val rfl rfl (Y_not rfl rfl) ?_
      refine S_val rfl rfl (Y_pick_f rfl rfl) ?_
      refine S_nil ?_
      refine X_seq ?_
      refine T_cond_false rfl ?_
      refine T_skip ?_
      refine X_seq ?_
      refine T_seq ?_
      refine T_region ?_
      refine S_sliceR (und rfl) (siz rfl) (zer rfl) rfl rfl rfl rfl fun _ => ?_
      refine S_val rfl rfl (Y_assign rfl) ?_
      refine S_nil ?_
      refine X_seq ?_
      refine T_seq ?_
      refine T_seq ?_
      refine T_region ?_
      refine S_val rfl rfl (Y_move rfl) ?_
      refine S_val rfl rfl (Y_lss_t rfl rfl (by omega)) ?_
      refine S_nil ?_
      refine X_seq ?_
      refine T_cond_true rfl ?_
      refine T_region ?_
      refine S_val rfl rfl (Y_move rfl) ?_
      refine S_val rfl rfl (Y_move rfl) ?_
      refine S_val rfl rfl (Y_conv (und rfl) (und rfl) rfl (wi64 (by omega) (by omega))) ?_
      refine S_val rfl rfl (Y_addN rfl rfl (nat_lit' _) (nat_cast _) (by omega)) ?_
      refine S_val rfl rfl (Y_move rfl) ?_
      refine S_val rfl rfl (Y_min rfl rfl (nat_cast _) (nat_lit' _)) ?_
      refine S_val rfl rfl (Y_conv (und rfl) (und rfl) rfl (wi64 (by omega) (by omega))) ?_
      refine S_callR _ rfl rfl (bod rfl) (fun w hs => pt2 _ (by first | exact hs.rowRd 0 rfl | exact hs.rowRd 1 rfl | exact hs.rowRd 2 rfl | exact hs.rowRd 3 rfl | exact hs.rowRd 4 rfl | exact hs.rowRd 5 rfl | exact hs.rowRd 6 rfl | exact hs.rowRd 7 rfl | exact hs.rowRd 8 rfl | exact hs.rowRd 9 rfl | exact hs.rowRd 10 rfl | exact hs.rowRd 11 rfl | exact hs.rowRd 12 rfl | exact hs.rowRd 13 rfl | exact Rd.st (by assumption) hs)) rfl rfl fun _ => ?_
      refine S_val rfl rfl (Y_assign rfl) ?_
      refine S_nil ?_
      refine X_seq ?_
      refine T_seq ?_
      refine T_region ?_
      refine S_val rfl rfl (Y_move rfl) ?_
      rename_i vh
      have tp := fun w h => rtop_any (min e 32) hd hj hj2 vh w h
      have hb256 := bitLen256 hh2
      have hc0 := cnt0_lt hh2 he
      have hcn := cntN_lt hh2 he
      have hcd : cntN hd e = if cnt0 hd e = 0 then 1 else cnt0 hd e := rfl
      have hc0d : cnt0 hd e = bitLen hd - 1 + (if 32 < e then 8 * (e - 32) else 0) := rfl
      have hw := wN_lt hb hm
      have hwd : wN b m = max b m / 8 + (if max b m % 8 = 0 then 0 else 1) := rfl
      clear hf hh2 hhd
      generalize cntN hd e = c at *
      generalize cnt0 hd e = c0 at *
      generalize wN b m = w0 at *
      generalize bitLen hd = bl at *
      refine S_callV rfl rfl (bod rfl) (fun w hs => tp _ (by first | exact hs.rowRd 0 rfl | exact hs.rowRd 1 rfl | exact hs.rowRd 2 rfl | exact hs.rowRd 3 rfl | exact hs.rowRd 4 rfl | exact hs.rowRd 5 rfl | exact hs.rowRd 6 rfl | exact hs.rowRd 7 rfl | exact hs.rowRd 8 rfl | exact hs.rowRd 9 rfl | exact hs.rowRd 10 rfl | exact hs.rowRd 11 rfl | exact hs.rowRd 12 rfl | exact hs.rowRd 13 rfl | exact Rd.st (by assumption) hs)) rfl rfl ?_
      refine S_val rfl rfl (Y_assign rfl) ?_
      refine S_nil ?_
      refine X_seq ?_
      refine T_seq ?_
      refine T_region ?_
      refine S_val rfl rfl (Y_move rfl) ?_
      refine S_val rfl rfl (Y_move rfl) ?_
      refine S_val rfl rfl (Y_max rfl rfl (nat_cast _) (nat_cast _)) ?_
      refine S_val rfl rfl (Y_quoN rfl rfl (nat_cast _) (nat_lit' _) (Nat.succ_ne_zero _) (by first | with_reducible exact xi64 (by omega) | with_reducible exact x64 (by omega) | with_reducible exact x8 (by omega) | with_reducible exact x32 (by omega))) ?_
      refine S_val rfl rfl (Y_assign rfl) ?_
      refine S_nil ?_
      refine X_seq ?_
      refine T_seq ?_
      refine T_seq ?_
      refine T_region ?_
      refine S_val rfl rfl (Y_move rfl) ?_
      refine S_val rfl rfl (Y_move rfl) ?_
      refine S_val rfl rfl (Y_max rfl rfl (nat_cast _) (nat_cast _)) ?_
      refine S_val rfl rfl (Y_remN rfl rfl (nat_cast _) (nat_lit' _) (Nat.succ_ne_zero _)) ?_
      refine S_val rfl rfl (Y_neq rfl rfl) ?_
      refine S_nil ?_
      refine X_seq ?_
      refine T_cutK (α := Unit) (fun _ => True) (fun _ => [(3, .int .u64 18446744073709551615), (6, .int .u64 e), (11, .int .u64 ((bl - 1 : Nat) : Int)), (12, .int .u64 w0)]) (fun _ => []) ?_ ?_
      · clear hg hc0d hcd hcn hc0 tp
        refine T_if rfl (fun h => ?_) (fun h => ?_)
        · rw [if_neg (by omega)] at hwd
          have hm2 : max b m / 8 + 1 < 18446744073709551616 := by omega
          rw [hwd]
          refine T_region ?_
          refine S_val rfl rfl (Y_move rfl) ?_
          refine S_val rfl rfl (Y_addU rfl rfl (nat_cast _) (nat_lit' _) rfl (by simp only [IntKind.bits]; assumption)) ?_
          refine S_val rfl rfl (Y_assign rfl) ?_
          refine S_nil ?_
          refine X_loop ?_
          exact ⟨(), trivial, (by repeat (first | exact Env.sub_nil _ | (apply Env.sub_cons; rfl))), Emb.nil _⟩
        · rw [if_pos (by omega), Nat.add_zero] at hwd
          rw [hwd]
          refine T_skip ?_
          refine X_loop ?_
          exact ⟨(), trivial, (by repeat (first | exact Env.sub_nil _ | (apply Env.sub_cons; rfl))), Emb.nil _⟩
      · rintro ⟨⟩ _
        clear hwd
        have dg := rdigits_any (bl - 1) (by omega)
        refine T_seq ?_
        refine T_region ?_
        refine S_val rfl rfl (Y_move rfl) ?_
        refine S_call _ rfl rfl (bod rfl) (fun w hs => dg _) rfl rfl ?_
        rintro vc _ ⟨jc, hjc, hjc8, rfl⟩
        refine S_val rfl rfl (Y_assign rfl) ?_
        refine S_nil ?_
        refine X_seq ?_
        refine T_seq ?_
        refine T_seq ?_
        refine T_region ?_
        refine S_val rfl rfl (Y_move rfl) ?_
        refine S_val rfl rfl (Y_gtr rfl rfl) ?_
        refine S_nil ?_
        refine X_seq ?_
        refine T_cutK (α := Nat × Value) (fun a => c0 < 256 ^ a.1 ∧ a.1 ≤ 20) (fun a => [(3, .int .u64 18446744073709551615), (12, .int .u64 w0), (13, a.2)]) (fun a => [row .i64 (dl 256 a.1 c0) a.2]) ?_ ?_
        · clear hg hcd hcn
          refine T_if rfl (fun h => ?_) (fun h => ?_)
          · have h32 : 32 < e := by omega
            rw [if_pos h32] at hc0d
            have d1 := rdigits_any (e - 32) (by omega)
            have d8 := rdigits_any 8 (by omega)
            refine T_region ?_
            refine S_val rfl rfl (Y_move rfl) ?_
            refine S_val rfl rfl (Y_move rfl) ?_
            refine S_val rfl rfl (Y_subU rfl rfl (nat_cast _) (nat_lit' _) rfl (by omega) (by simp only [IntKind.bits]; assumption)) ?_
            refine S_call _ rfl rfl (bod rfl) (fun w hs => d1 _) rfl rfl ?_
            rintro v1 _ ⟨j1, hj1, hj18, rfl⟩
            skip
            refine S_call _ rfl rfl (bod rfl) (fun w hs => d8 _) rfl rfl ?_
            rintro v8 _ ⟨j8, hj8, hj88, rfl⟩
            skip
            refine S_callR _ rfl rfl (bod rfl) (fun w hs => ntimes_any (e - 32) 8 j1 j8 hj1 hj8 (by omega) (by omega) v1 v8 _ (by first | exact hs.rowRd 0 rfl | exact hs.rowRd 1 rfl | exact hs.rowRd 2 rfl | exact hs.rowRd 3 rfl | exact hs.rowRd 4 rfl | exact hs.rowRd 5 rfl | exact hs.rowRd 6 rfl | exact hs.rowRd 7 rfl | exact hs.rowRd 8 rfl | exact hs.rowRd 9 rfl | exact hs.rowRd 10 rfl | exact hs.rowRd 11 rfl | exact hs.rowRd 12 rfl | exact hs.rowRd 13 rfl | exact Rd.st (by assumption) hs) (by first | exact hs.rowRd 0 rfl | exact hs.rowRd 1 rfl | exact hs.rowRd 2 rfl | exact hs.rowRd 3 rfl | exact hs.rowRd 4 rfl | exact hs.rowRd 5 rfl | exact hs.rowRd 6 rfl | exact hs.rowRd 7 rfl | exact hs.rowRd 8 rfl | exact hs.rowRd 9 rfl | exact hs.rowRd 10 rfl | exact hs.rowRd 11 rfl | exact hs.rowRd 12 rfl | exact hs.rowRd 13 rfl | exact Rd.st (by assumption) hs)) rfl rfl fun _ => ?_
            have hml : (e - 32) * 8 < 256 ^ (j1 + j8 + 1) := by
              rw [Nat.pow_succ, Nat.pow_add]
              have := Nat.mul_lt_mul'' hj1 hj8
              omega
            have pl := fun v1 w h h' => nplus_any (bl - 1) ((e - 32) * 8) jc (j1 + j8 + 1) hjc hml (by omega) (by omega) vc v1 w h h'
            rw [show bl - 1 + (e - 32) * 8 = c0 by omega] at pl
            have hlt : c0 < 256 ^ (max jc (j1 + j8 + 1) + 1) := by
              have e1 : 256 ^ jc ≤ 256 ^ max jc (j1 + j8 + 1) := Nat.pow_le_pow_right (by omega) (by omega)
              have e2 : 256 ^ (j1 + j8 + 1) ≤ 256 ^ max jc (j1 + j8 + 1) := Nat.pow_le_pow_right (by omega) (by omega)
              rw [Nat.pow_succ]
              omega
            generalize (e - 32) * 8 = z at *
            skip
            refine S_callR _ rfl rfl (bod rfl) (fun w hs => pl _ _ (by first | exact hs.rowRd 0 rfl | exact hs.rowRd 1 rfl | exact hs.rowRd 2 rfl | exact hs.rowRd 3 rfl | exact hs.rowRd 4 rfl | exact hs.rowRd 5 rfl | exact hs.rowRd 6 rfl | exact hs.rowRd 7 rfl | exact hs.rowRd 8 rfl | exact hs.rowRd 9 rfl | exact hs.rowRd 10 rfl | exact hs.rowRd 11 rfl | exact hs.rowRd 12 rfl | exact hs.rowRd 13 rfl | exact Rd.st (by assumption) hs) (by first | exact hs.rowRd 0 rfl | exact hs.rowRd 1 rfl | exact hs.rowRd 2 rfl | exact hs.rowRd 3 rfl | exact hs.rowRd 4 rfl | exact hs.rowRd 5 rfl | exact hs.rowRd 6 rfl | exact hs.rowRd 7 rfl | exact hs.rowRd 8 rfl | exact hs.rowRd 9 rfl | exact hs.rowRd 10 rfl | exact hs.rowRd 11 rfl | exact hs.rowRd 12 rfl | exact hs.rowRd 13 rfl | exact Rd.st (by assumption) hs)) rfl rfl fun _ => ?_
            refine S_val rfl rfl (Y_assign rfl) ?_
            refine S_nil ?_
            refine X_loop ?_
            exact ⟨(max jc (j1 + j8 + 1) + 1, _), ⟨hlt, by dsimp only; omega⟩, (by repeat (first | exact Env.sub_nil _ | (apply Env.sub_cons; rfl))), Emb.one 4 rfl⟩
          · rw [if_neg (by omega), Nat.add_zero] at hc0d
            rw [← hc0d] at hjc ⊢
            refine T_skip ?_
            refine X_loop ?_
            exact ⟨(jc, vc), ⟨hjc, by dsimp only; omega⟩, (by repeat (first | exact Env.sub_nil _ | (apply Env.sub_cons; rfl))), Emb.one 0 rfl⟩
        · clear hjc hjc8 dg hc0d
          rintro ⟨jc, vc⟩ ⟨hjc, hjc8⟩
          dsimp only at hjc hjc8 ⊢
          have zr := fun w h => nzero_any c0 jc hjc (by omega) vc w h
          refine T_seq ?_
          refine T_seq ?_
          refine T_region ?_
          refine S_val rfl rfl (Y_move rfl) ?_
          refine S_callV rfl rfl (bod rfl) (fun w hs => zr _ (by first | exact hs.rowRd 0 rfl | exact hs.rowRd 1 rfl | exact hs.rowRd 2 rfl | exact hs.rowRd 3 rfl | exact hs.rowRd 4 rfl | exact hs.rowRd 5 rfl | exact hs.rowRd 6 rfl | exact hs.rowRd 7 rfl | exact hs.rowRd 8 rfl | exact hs.rowRd 9 rfl | exact hs.rowRd 10 rfl | exact hs.rowRd 11 rfl | exact hs.rowRd 12 rfl | exact hs.rowRd 13 rfl | exact Rd.st (by assumption) hs)) rfl rfl ?_
          refine S_nil ?_
          refine X_seq ?_
          refine T_cutK (α := Nat × Value) (fun a => c < 256 ^ a.1 ∧ a.1 ≤ 20) (fun a => [(3, .int .u64 18446744073709551615), (12, .int .u64 w0), (13, a.2)]) (fun a => [row .i64 (dl 256 a.1 c) a.2]) ?_ ?_
          · clear hg
            refine T_if rfl (fun h => ?_) (fun h => ?_)
            · rw [if_pos h] at hcd
              subst hcd
              have d1 := rdigits_any 1 (by omega)
              refine T_region ?_
              refine S_call _ rfl rfl (bod rfl) (fun w hs => d1 _) rfl rfl ?_
              rintro v1 _ ⟨j1, hj1, hj18, rfl⟩
              refine S_val rfl rfl (Y_assign rfl) ?_
              refine S_nil ?_
              refine X_loop ?_
              exact ⟨(j1, v1), ⟨hj1, by dsimp only; omega⟩, (by repeat (first | exact Env.sub_nil _ | (apply Env.sub_cons; rfl))), Emb.one 1 rfl⟩
            · rw [if_neg h] at hcd
              subst hcd
              refine T_skip ?_
              refine X_loop ?_
              exact ⟨(jc, vc), ⟨hjc, by dsimp only; omega⟩, (by repeat (first | exact Env.sub_nil _ | (apply Env.sub_cons; rfl))), Emb.one 0 rfl⟩
          · clear hjc hjc8 zr hcd
            rintro ⟨jc, vc⟩ ⟨hjc, hjc8⟩
            dsimp only at hjc hjc8 ⊢
            have dw := rdigits_any w0 (by omega)
            have d3 := rdigits_any 3 (by omega)
            obtain ⟨nn, hnn⟩ : ∃ nn : Nat, nn = 18446744073709551615 := ⟨_, rfl⟩
            have dn := rdigits_any nn (by omega)
            rw [show (nn : Int) = 18446744073709551615 by omega] at dn
            refine T_seq ?_
            refine T_region ?_
            refine S_val rfl rfl (Y_move rfl) ?_
            refine S_call _ rfl rfl (bod rfl) (fun w hs => dw _) rfl rfl ?_
            rintro va _ ⟨ja, hja, hja8, rfl⟩
            refine S_val rfl rfl (Y_move rfl) ?_
            refine S_call _ rfl rfl (bod rfl) (fun w hs => dw _) rfl rfl ?_
            rintro vb _ ⟨jb, hjb, hjb8, rfl⟩
            skip
            refine S_callR _ rfl rfl (bod rfl) (fun w hs => ntimes_any w0 w0 ja jb hja hjb (by omega) (by omega) va vb _ (by first | exact hs.rowRd 0 rfl | exact hs.rowRd 1 rfl | exact hs.rowRd 2 rfl | exact hs.rowRd 3 rfl | exact hs.rowRd 4 rfl | exact hs.rowRd 5 rfl | exact hs.rowRd 6 rfl | exact hs.rowRd 7 rfl | exact hs.rowRd 8 rfl | exact hs.rowRd 9 rfl | exact hs.rowRd 10 rfl | exact hs.rowRd 11 rfl | exact hs.rowRd 12 rfl | exact hs.rowRd 13 rfl | exact Rd.st (by assumption) hs) (by first | exact hs.rowRd 0 rfl | exact hs.rowRd 1 rfl | exact hs.rowRd 2 rfl | exact hs.rowRd 3 rfl | exact hs.rowRd 4 rfl | exact hs.rowRd 5 rfl | exact hs.rowRd 6 rfl | exact hs.rowRd 7 rfl | exact hs.rowRd 8 rfl | exact hs.rowRd 9 rfl | exact hs.rowRd 10 rfl | exact hs.rowRd 11 rfl | exact hs.rowRd 12 rfl | exact hs.rowRd 13 rfl | exact Rd.st (by assumption) hs)) rfl rfl fun _ => ?_
            have hww : w0 * w0 < 256 ^ (ja + jb + 1) := by
              rw [Nat.pow_succ, Nat.pow_add]
              have := Nat.mul_lt_mul'' hja hjb
              omega
            generalize w0 * w0 = ww at *
            have tm := fun v1 w h h' => ntimes_any ww c (ja + jb + 1) jc hww hjc (by omega) (by omega) v1 vc w h h'
            have hp : ww * c < 256 ^ (ja + jb + 1 + jc + 1) := by
              rw [Nat.pow_succ _ (ja + jb + 1 + jc), Nat.pow_add _ (ja + jb + 1)]
              have := Nat.mul_lt_mul'' hww hjc
              omega
            generalize ww * c = p at *
            generalize hlp : ja + jb + 1 + jc + 1 = lp at *
            have hlp2 : lp ≤ 60 := by omega
            clear hlp
            refine S_val rfl rfl (Y_move rfl) ?_
            refine S_callR _ rfl rfl (bod rfl) (fun w hs => tm _ _ (by first | exact hs.rowRd 0 rfl | exact hs.rowRd 1 rfl | exact hs.rowRd 2 rfl | exact hs.rowRd 3 rfl | exact hs.rowRd 4 rfl | exact hs.rowRd 5 rfl | exact hs.rowRd 6 rfl | exact hs.rowRd 7 rfl | exact hs.rowRd 8 rfl | exact hs.rowRd 9 rfl | exact hs.rowRd 10 rfl | exact hs.rowRd 11 rfl | exact hs.rowRd 12 rfl | exact hs.rowRd 13 rfl | exact Rd.st (by assumption) hs) (by first | exact hs.rowRd 0 rfl | exact hs.rowRd 1 rfl | exact hs.rowRd 2 rfl | exact hs.rowRd 3 rfl | exact hs.rowRd 4 rfl | exact hs.rowRd 5 rfl | exact hs.rowRd 6 rfl | exact hs.rowRd 7 rfl | exact hs.rowRd 8 rfl | exact hs.rowRd 9 rfl | exact hs.rowRd 10 rfl | exact hs.rowRd 11 rfl | exact hs.rowRd 12 rfl | exact hs.rowRd 13 rfl | exact Rd.st (by assumption) hs)) rfl rfl fun _ => ?_
            skip
            refine S_call _ rfl rfl (bod rfl) (fun w hs => d3 _) rfl rfl ?_
            rintro v3 _ ⟨j3, hj3, hj38, rfl⟩
            have dv := fun v1 w h h' => ndiv_any p 3 lp j3 hp hj3 (by omega) (by omega) v1 v3 w h h'
            have hq2 : p / 3 < 256 ^ lp := Nat.lt_of_le_of_lt (Nat.div_le_self _ _) hp
            skip
            refine S_call _ rfl rfl (bod rfl) (fun w hs => dv _ _ (by first | exact hs.rowRd 0 rfl | exact hs.rowRd 1 rfl | exact hs.rowRd 2 rfl | exact hs.rowRd 3 rfl | exact hs.rowRd 4 rfl | exact hs.rowRd 5 rfl | exact hs.rowRd 6 rfl | exact hs.rowRd 7 rfl | exact hs.rowRd 8 rfl | exact hs.rowRd 9 rfl | exact hs.rowRd 10 rfl | exact hs.rowRd 11 rfl | exact hs.rowRd 12 rfl | exact hs.rowRd 13 rfl | exact Rd.st (by assumption) hs) (by first | exact hs.rowRd 0 rfl | exact hs.rowRd 1 rfl | exact hs.rowRd 2 rfl | exact hs.rowRd 3 rfl | exact hs.rowRd 4 rfl | exact hs.rowRd 5 rfl | exact hs.rowRd 6 rfl | exact hs.rowRd 7 rfl | exact hs.rowRd 8 rfl | exact hs.rowRd 9 rfl | exact hs.rowRd 10 rfl | exact hs.rowRd 11 rfl | exact hs.rowRd 12 rfl | exact hs.rowRd 13 rfl | exact Rd.st (by assumption) hs)) rfl rfl ?_
            rintro _ _ ⟨jr, rr, vq, vr, _, _, _, rfl, rfl⟩
            refine S_val rfl rfl (Y_move rfl) ?_
            refine S_val rfl rfl (Y_extract rfl rfl) ?_
            refine S_val rfl rfl (Y_extract rfl rfl) ?_
            refine S_val rfl rfl (Y_assign rfl) ?_
            refine S_val rfl rfl (Y_assign rfl) ?_
            refine S_nil ?_
            refine X_seq ?_
            refine T_seq ?_
            refine T_seq ?_
            refine T_region ?_
            refine S_val rfl rfl (Y_move rfl) ?_
            refine S_val rfl rfl (Y_move rfl) ?_
            generalize p / 3 = q at *
            refine S_call _ rfl rfl (bod rfl) (fun w hs => dn _) rfl rfl ?_
            rintro vn _ ⟨jn, hjn, hjn8, rfl⟩
            have lss := fun w h h' => nless_any q nn lp jn hq2 hjn (by omega) (by omega) vq vn w h h'
            clear dv tm dw d3 dn hww hja hjb hj3 hjn hp hjc
            by_cases hq : q < nn
            · rw [decide_eq_true hq] at lss
              have hg2 : ((max q 200 : Nat) : Int) = (g : Int) := by omega
              clear hg
              skip
              refine S_callV rfl rfl (bod rfl) (fun w hs => lss _ (by first | exact hs.rowRd 0 rfl | exact hs.rowRd 1 rfl | exact hs.rowRd 2 rfl | exact hs.rowRd 3 rfl | exact hs.rowRd 4 rfl | exact hs.rowRd 5 rfl | exact hs.rowRd 6 rfl | exact hs.rowRd 7 rfl | exact hs.rowRd 8 rfl | exact hs.rowRd 9 rfl | exact hs.rowRd 10 rfl | exact hs.rowRd 11 rfl | exact hs.rowRd 12 rfl | exact hs.rowRd 13 rfl | exact Rd.st (by assumption) hs) (by first | exact hs.rowRd 0 rfl | exact hs.rowRd 1 rfl | exact hs.rowRd 2 rfl | exact hs.rowRd 3 rfl | exact hs.rowRd 4 rfl | exact hs.rowRd 5 rfl | exact hs.rowRd 6 rfl | exact hs.rowRd 7 rfl | exact hs.rowRd 8 rfl | exact hs.rowRd 9 rfl | exact hs.rowRd 10 rfl | exact hs.rowRd 11 rfl | exact hs.rowRd 12 rfl | exact hs.rowRd 13 rfl | exact Rd.st (by assumption) hs)) rfl rfl ?_
              refine S_val rfl rfl (Y_not rfl rfl) ?_
              refine S_nil ?_
              refine X_seq ?_
              refine T_cond_false rfl ?_
              refine T_skip ?_
              refine X_seq ?_
              refine T_seq ?_
              refine T_region ?_
              refine S_val rfl rfl (Y_assign rfl) ?_
              refine S_nil ?_
              refine X_seq ?_
              refine T_seq ?_
              refine T_seq ?_
              refine T_region ?_
              refine S_val rfl rfl (Y_move rfl) ?_
              refine S_val rfl rfl (Y_lenV rfl (und rfl) rfl (fun _ hs => hs.rowRd 6 rfl) (dl_length _ _ _)) ?_
              refine S_val rfl rfl (Y_sub rfl rfl (wi64 (by omega) (by omega))) ?_
              refine S_val rfl rfl (Y_assign rfl) ?_
              refine S_nil ?_
              refine X_seq ?_
              refine T_block ?_
              refine T_loopE (α := Nat) (fun j => j ≤ lp)
                (fun j => [(14, vq), (16, .int .u64 ((q / 256 ^ j : Nat) : Int)), (17, .int .i64 ((j : Int) - 1))])
                (fun j => [row .i64 (dl 256 lp q) vq])
                (fun j => j) lp (Nat.le_refl _) (by rw [Nat.div_eq_of_lt hq2]; exact (by repeat (first | exact Env.sub_nil _ | (apply Env.sub_cons; rfl)))) (Emb.one 6 rfl) ?_
              intro j hj
              have hle : q / 256 ^ j ≤ q := Nat.div_le_self _ _
              by_cases h0 : j = 0
              · subst h0
                have hqq : q / 256 ^ 0 = q := by rw [Nat.pow_zero, Nat.div_one]
                rw [hqq]
                refine T_seq ?_
                refine T_seq ?_
                refine T_region ?_
                refine S_val rfl rfl (Y_move rfl) ?_
                refine S_val rfl rfl (Y_geq_f rfl rfl (by decide)) ?_
                refine S_nil ?_
                refine X_seq ?_
                refine T_cond_false rfl ?_
                refine T_exit ?_
                refine X_seq_exit ?_
                refine X_loop_exit ?_
                refine X_blk_hit rfl ?_
                refine X_seq ?_
                refine T_seq ?_
                refine T_region ?_
                refine S_val rfl rfl (Y_move rfl) ?_
                refine S_val rfl rfl (Y_max rfl rfl (nat_cast _) (nat_lit' _)) ?_
                refine S_val rfl rfl (Y_assign rfl) ?_
                refine S_nil ?_
                refine X_seq ?_
                refine T_ret ?_
                ((first | refine X_fin_ret ?_ | refine X_fin ?_); exact ⟨[_], [], .cons (.tmp rfl) .nil, Emb.nil _, by show Value.int .u64 ((max q 200 : Nat) : Int) = _; rw [hg2], rfl⟩)
              · obtain ⟨i, rfl⟩ : ∃ i, j = i + 1 := ⟨j - 1, by omega⟩
                rw [show (((i + 1 : Nat) : Int) - 1) = (i : Int) by omega]
                have hd := dig256_lt q i
                have hq1 : q / 256 ^ i = q / 256 ^ (i + 1) * 256 + q / 256 ^ i % 256 := by
                  rw [Nat.pow_succ, ← Nat.div_div_eq_div_mul]
                  omega
                have hle2 : q / 256 ^ i ≤ q := Nat.div_le_self _ _
                have hlt : q / 256 ^ (i + 1) * 256 + q / 256 ^ i % 256 < 18446744073709551616 := by omega
                have hm : q / 256 ^ (i + 1) * 256 < 18446744073709551616 := by omega
                clear hle hle2
                refine T_seq ?_
                refine T_seq ?_
                refine T_region ?_
                refine S_val rfl rfl (Y_move rfl) ?_
                refine S_val rfl rfl (Y_geq_t rfl rfl (by omega)) ?_
                refine S_nil ?_
                refine X_seq ?_
                refine T_cond_true rfl ?_
                refine T_skip ?_
                refine X_seq ?_
                refine T_seq ?_
                refine T_block ?_
                refine T_region ?_
                refine S_val rfl rfl (Y_move rfl) ?_
                refine S_val rfl rfl (Y_mulU rfl rfl (nat_cast _) (nat_lit' _) rfl (by simp only [IntKind.bits]; assumption)) ?_
                refine S_val rfl rfl (Y_move rfl) ?_
                refine S_val rfl rfl (Y_move rfl) ?_
                refine S_val rfl rfl (Y_ixV (und rfl) (siz rfl) rfl rfl (fun _ hs => hs.rowRd 0 rfl) (nat_cast _) (dl_lt (by assumption))) ?_
                refine S_val rfl rfl (Y_loadV (und rfl) rfl rfl (fun _ hs => hs.rowRd 0 rfl) (dl_get (by assumption))) ?_
                refine S_val rfl rfl (Y_conv (und rfl) (und rfl) rfl (wu64 (by omega) (by omega))) ?_
                refine S_val rfl rfl (Y_addU rfl rfl (nat_cast _) (nat_cast _) rfl (by simp only [IntKind.bits]; assumption)) ?_
                refine S_val rfl rfl (Y_assign rfl) ?_
                refine S_nil ?_
                refine X_blk ?_
                refine X_seq ?_
                refine T_region ?_
                refine S_val rfl rfl (Y_move rfl) ?_
                refine S_val rfl rfl (Y_sub rfl rfl (wi64 (by omega) (by omega))) ?_
                refine S_val rfl rfl (Y_assign rfl) ?_
                refine S_nil ?_
                rw [← hq1]
                refine X_loop ?_
                exact ⟨i, by omega, by omega, (by repeat (first | exact Env.sub_nil _ | (apply Env.sub_cons; rfl))), Emb.refl _⟩
            · rw [decide_eq_false hq] at lss
              have hg2 : (18446744073709551615 : Int) = (g : Int) := by omega
              clear hg
              skip
              refine S_callV rfl rfl (bod rfl) (fun w hs => lss _ (by first | exact hs.rowRd 0 rfl | exact hs.rowRd 1 rfl | exact hs.rowRd 2 rfl | exact hs.rowRd 3 rfl | exact hs.rowRd 4 rfl | exact hs.rowRd 5 rfl | exact hs.rowRd 6 rfl | exact hs.rowRd 7 rfl | exact hs.rowRd 8 rfl | exact hs.rowRd 9 rfl | exact hs.rowRd 10 rfl | exact hs.rowRd 11 rfl | exact hs.rowRd 12 rfl | exact hs.rowRd 13 rfl | exact Rd.st (by assumption) hs) (by first | exact hs.rowRd 0 rfl | exact hs.rowRd 1 rfl | exact hs.rowRd 2 rfl | exact hs.rowRd 3 rfl | exact hs.rowRd 4 rfl | exact hs.rowRd 5 rfl | exact hs.rowRd 6 rfl | exact hs.rowRd 7 rfl | exact hs.rowRd 8 rfl | exact hs.rowRd 9 rfl | exact hs.rowRd 10 rfl | exact hs.rowRd 11 rfl | exact hs.rowRd 12 rfl | exact hs.rowRd 13 rfl | exact Rd.st (by assumption) hs)) rfl rfl ?_
              refine S_val rfl rfl (Y_not rfl rfl) ?_
              refine S_nil ?_
              refine X_seq ?_
              refine T_cond_true rfl ?_
              refine T_seq ?_
              refine T_region ?_
              refine S_val rfl rfl (Y_move rfl) ?_
              refine S_val rfl rfl (Y_assign rfl) ?_
              refine S_nil ?_
              refine X_seq ?_
              refine T_ret ?_
              refine X_seq_ret ?_
              ((first | refine X_fin_ret ?_ | refine X_fin ?_); exact ⟨[_], [], .cons (.tmp rfl) .nil, Emb.nil _, by show Value.int .u64 18446744073709551615 = _; rw [hg2], rfl⟩)
    · have hz : hd = 0 := hf (by omega)
      have hj : hd < 256 ^ 0 := by omega
      have hj2 : 0 ≤ 32 := by omega
      clear pt hh1
      refine T_seq ?_
      refine T_seq ?_
      refine T_region ?_
      refine S_val rfl rfl (Y_move rfl) ?_
      refine S_val rfl rfl (Y_not rfl rfl) ?_
      refine S_val rfl rfl (Y_move rfl) ?_
      refine S_val rfl rfl (Y_move rfl) ?_
      refine S_val rfl rfl (Y_not rfl rfl) ?_
      refine S_val rfl rfl (Y_pick_f rfl rfl) ?_
      refine S_val rfl rfl (Y_move rfl) ?_
      refine S_val rfl rfl (Y_move rfl) ?_
      refine S_val rfl rfl (Y_not rfl rfl) ?_
      refine S_val rfl rfl (Y_pick_f rfl rfl) ?_
      refine S_nil ?_
      refine X_seq ?_
      refine T_cond_false rfl ?_
      refine T_skip ?_
      refine X_seq ?_
      refine T_seq ?_
      refine T_region ?_
      refine S_sliceR (und rfl) (siz rfl) (zer rfl) rfl rfl rfl rfl fun _ => ?_
      refine S_val rfl rfl (Y_assign rfl) ?_
      refine S_nil ?_
      refine X_seq ?_
      refine T_seq ?_
      refine T_seq ?_
      refine T_region ?_
      refine S_val rfl rfl (Y_move rfl) ?_
      refine S_val rfl rfl (Y_lss_f rfl rfl (by omega)) ?_
      refine S_nil ?_
      refine X_seq ?_
      refine T_cond_false rfl ?_
      refine T_skip ?_
      refine X_seq ?_
      refine T_seq ?_
      refine T_region ?_
      refine S_val rfl rfl (Y_move rfl) ?_
      rename_i vh
      have tp := fun w h => rtop_any (0) hd hj hj2 vh w h
      have hb256 := bitLen256 hh2
      have hc0 := cnt0_lt hh2 he
      have hcn := cntN_lt hh2 he
      have hcd : cntN hd e = if cnt0 hd e = 0 then 1 else cnt0 hd e := rfl
      have hc0d : cnt0 hd e = bitLen hd - 1 + (if 32 < e then 8 * (e - 32) else 0) := rfl
      have hw := wN_lt hb hm
      have hwd : wN b m = max b m / 8 + (if max b m % 8 = 0 then 0 else 1) := rfl
      clear hf hh2 hhd
      generalize cntN hd e = c at *
      generalize cnt0 hd e = c0 at *
      generalize wN b m = w0 at *
      generalize bitLen hd = bl at *
      refine S_callV rfl rfl (bod rfl) (fun w hs => tp _ (by first | exact hs.rowRd 0 rfl | exact hs.rowRd 1 rfl | exact hs.rowRd 2 rfl | exact hs.rowRd 3 rfl | exact hs.rowRd 4 rfl | exact hs.rowRd 5 rfl | exact hs.rowRd 6 rfl | exact hs.rowRd 7 rfl | exact hs.rowRd 8 rfl | exact hs.rowRd 9 rfl | exact hs.rowRd 10 rfl | exact hs.rowRd 11 rfl | exact hs.rowRd 12 rfl | exact hs.rowRd 13 rfl | exact Rd.st (by assumption) hs)) rfl rfl ?_
      refine S_val rfl rfl (Y_assign rfl) ?_
      refine S_nil ?_
      refine X_seq ?_
      refine T_seq ?_
      refine T_region ?_
      refine S_val rfl rfl (Y_move rfl) ?_
      refine S_val rfl rfl (Y_move rfl) ?_
      refine S_val rfl rfl (Y_max rfl rfl (nat_cast _) (nat_cast _)) ?_
      refine S_val rfl rfl (Y_quoN rfl rfl (nat_cast _) (nat_lit' _) (Nat.succ_ne_zero _) (by first | with_reducible exact xi64 (by omega) | with_reducible exact x64 (by omega) | with_reducible exact x8 (by omega) | with_reducible exact x32 (by omega))) ?_
      refine S_val rfl rfl (Y_assign rfl) ?_
      refine S_nil ?_
      refine X_seq ?_
      refine T_seq ?_
      refine T_seq ?_
      refine T_region ?_
      refine S_val rfl rfl (Y_move rfl) ?_
      refine S_val rfl rfl (Y_move rfl) ?_
      refine S_val rfl rfl (Y_max rfl rfl (nat_cast _) (nat_cast _)) ?_
      refine S_val rfl rfl (Y_remN rfl rfl (nat_cast _) (nat_lit' _) (Nat.succ_ne_zero _)) ?_
      refine S_val rfl rfl (Y_neq rfl rfl) ?_
      refine S_nil ?_
      refine X_seq ?_
      refine T_cutK (α := Unit) (fun _ => True) (fun _ => [(3, .int .u64 18446744073709551615), (6, .int .u64 e), (11, .int .u64 ((bl - 1 : Nat) : Int)), (12, .int .u64 w0)]) (fun _ => []) ?_ ?_
      · clear hg hc0d hcd hcn hc0 tp
        refine T_if rfl (fun h => ?_) (fun h => ?_)
        · rw [if_neg (by omega)] at hwd
          have hm2 : max b m / 8 + 1 < 18446744073709551616 := by omega
          rw [hwd]
          refine T_region ?_
          refine S_val rfl rfl (Y_move rfl) ?_
          refine S_val rfl rfl (Y_addU rfl rfl (nat_cast _) (nat_lit' _) rfl (by simp only [IntKind.bits]; assumption)) ?_
          refine S_val rfl rfl (Y_assign rfl) ?_
          refine S_nil ?_
          refine X_loop ?_
          exact ⟨(), trivial, (by repeat (first | exact Env.sub_nil _ | (apply Env.sub_cons; rfl))), Emb.nil _⟩
        · rw [if_pos (by omega), Nat.add_zero] at hwd
          rw [hwd]
          refine T_skip ?_
          refine X_loop ?_
          exact ⟨(), trivial, (by repeat (first | exact Env.sub_nil _ | (apply Env.sub_cons; rfl))), Emb.nil _⟩
      · rintro ⟨⟩ _
        clear hwd
        have dg := rdigits_any (bl - 1) (by omega)
        refine T_seq ?_
        refine T_region ?_
        refine S_val rfl rfl (Y_move rfl) ?_
        refine S_call _ rfl rfl (bod rfl) (fun w hs => dg _) rfl rfl ?_
        rintro vc _ ⟨jc, hjc, hjc8, rfl⟩
        refine S_val rfl rfl (Y_assign rfl) ?_
        refine S_nil ?_
        refine X_seq ?_
        refine T_seq ?_
        refine T_seq ?_
        refine T_region ?_
        refine S_val rfl rfl (Y_move rfl) ?_
        refine S_val rfl rfl (Y_gtr rfl rfl) ?_
        refine S_nil ?_
        refine X_seq ?_
        refine T_cutK (α := Nat × Value) (fun a => c0 < 256 ^ a.1 ∧ a.1 ≤ 20) (fun a => [(3, .int .u64 18446744073709551615), (12, .int .u64 w0), (13, a.2)]) (fun a => [row .i64 (dl 256 a.1 c0) a.2]) ?_ ?_
        · clear hg hcd hcn
          refine T_if rfl (fun h => ?_) (fun h => ?_)
          · have h32 : 32 < e := by omega
            rw [if_pos h32] at hc0d
            have d1 := rdigits_any (e - 32) (by omega)
            have d8 := rdigits_any 8 (by omega)
            refine T_region ?_
            refine S_val rfl rfl (Y_move rfl) ?_
            refine S_val rfl rfl (Y_move rfl) ?_
            refine S_val rfl rfl (Y_subU rfl rfl (nat_cast _) (nat_lit' _) rfl (by omega) (by simp only [IntKind.bits]; assumption)) ?_
            refine S_call _ rfl rfl (bod rfl) (fun w hs => d1 _) rfl rfl ?_
            rintro v1 _ ⟨j1, hj1, hj18, rfl⟩
            skip
            refine S_call _ rfl rfl (bod rfl) (fun w hs => d8 _) rfl rfl ?_
            rintro v8 _ ⟨j8, hj8, hj88, rfl⟩
            skip
            refine S_callR _ rfl rfl (bod rfl) (fun w hs => ntimes_any (e - 32) 8 j1 j8 hj1 hj8 (by omega) (by omega) v1 v8 _ (by first | exact hs.rowRd 0 rfl | exact hs.rowRd 1 rfl | exact hs.rowRd 2 rfl | exact hs.rowRd 3 rfl | exact hs.rowRd 4 rfl | exact hs.rowRd 5 rfl | exact hs.rowRd 6 rfl | exact hs.rowRd 7 rfl | exact hs.rowRd 8 rfl | exact hs.rowRd 9 rfl | exact hs.rowRd 10 rfl | exact hs.rowRd 11 rfl | exact hs.rowRd 12 rfl | exact hs.rowRd 13 rfl | exact Rd.st (by assumption) hs) (by first | exact hs.rowRd 0 rfl | exact hs.rowRd 1 rfl | exact hs.rowRd 2 rfl | exact hs.rowRd 3 rfl | exact hs.rowRd 4 rfl | exact hs.rowRd 5 rfl | exact hs.rowRd 6 rfl | exact hs.rowRd 7 rfl | exact hs.rowRd 8 rfl | exact hs.rowRd 9 rfl | exact hs.rowRd 10 rfl | exact hs.rowRd 11 rfl | exact hs.rowRd 12 rfl | exact hs.rowRd 13 rfl | exact Rd.st (by assumption) hs)) rfl rfl fun _ => ?_
            have hml : (e - 32) * 8 < 256 ^ (j1 + j8 + 1) := by
              rw [Nat.pow_succ, Nat.pow_add]
              have := Nat.mul_lt_mul'' hj1 hj8
              omega
            have pl := fun v1 w h h' => nplus_any (bl - 1) ((e - 32) * 8) jc (j1 + j8 + 1) hjc hml (by omega) (by omega) vc v1 w h h'
            rw [show bl - 1 + (e - 32) * 8 = c0 by omega] at pl
            have hlt : c0 < 256 ^ (max jc (j1 + j8 + 1) + 1) := by
              have e1 : 256 ^ jc ≤ 256 ^ max jc (j1 + j8 + 1) := Nat.pow_le_pow_right (by omega) (by omega)
              have e2 : 256 ^ (j1 + j8 + 1) ≤ 256 ^ max jc (j1 + j8 + 1) := Nat.pow_le_pow_right (by omega) (by omega)
              rw [Nat.pow_succ]
              omega
            generalize (e - 32) * 8 = z at *
            skip
            refine S_callR _ rfl rfl (bod rfl) (fun w hs => pl _ _ (by first | exact hs.rowRd 0 rfl | exact hs.rowRd 1 rfl | exact hs.rowRd 2 rfl | exact hs.rowRd 3 rfl | exact hs.rowRd 4 rfl | exact hs.rowRd 5 rfl | exact hs.rowRd 6 rfl | exact hs.rowRd 7 rfl | exact hs.rowRd 8 rfl | exact hs.rowRd 9 rfl | exact hs.rowRd 10 rfl | exact hs.rowRd 11 rfl | exact hs.rowRd 12 rfl | exact hs.rowRd 13 rfl | exact Rd.st (by assumption) hs) (by first | exact hs.rowRd 0 rfl | exact hs.rowRd 1 rfl | exact hs.rowRd 2 rfl | exact hs.rowRd 3 rfl | exact hs.rowRd 4 rfl | exact hs.rowRd 5 rfl | exact hs.rowRd 6 rfl | exact hs.rowRd 7 rfl | exact hs.rowRd 8 rfl | exact hs.rowRd 9 rfl | exact hs.rowRd 10 rfl | exact hs.rowRd 11 rfl | exact hs.rowRd 12 rfl | exact hs.rowRd 13 rfl | exact Rd.st (by assumption) hs)) rfl rfl fun _ => ?_
            refine S_val rfl rfl (Y_assign rfl) ?_
            refine S_nil ?_
            refine X_loop ?_
            exact ⟨(max jc (j1 + j8 + 1) + 1, _), ⟨hlt, by dsimp only; omega⟩, (by repeat (first | exact Env.sub_nil _ | (apply Env.sub_cons; rfl))), Emb.one 4 rfl⟩
          · rw [if_neg (by omega), Nat.add_zero] at hc0d
            rw [← hc0d] at hjc ⊢
            refine T_skip ?_
            refine X_loop ?_
            exact ⟨(jc, vc), ⟨hjc, by dsimp only; omega⟩, (by repeat (first | exact Env.sub_nil _ | (apply Env.sub_cons; rfl))), Emb.one 0 rfl⟩
        · clear hjc hjc8 dg hc0d
          rintro ⟨jc, vc⟩ ⟨hjc, hjc8⟩
          dsimp only at hjc hjc8 ⊢
          have zr := fun w h => nzero_any c0 jc hjc (by omega) vc w h
          refine T_seq ?_
          refine T_seq ?_
          refine T_region ?_
          refine S_val rfl rfl (Y_move rfl) ?_
          refine S_callV rfl rfl (bod rfl) (fun w hs => zr _ (by first | exact hs.rowRd 0 rfl | exact hs.rowRd 1 rfl | exact hs.rowRd 2 rfl | exact hs.rowRd 3 rfl | exact hs.rowRd 4 rfl | exact hs.rowRd 5 rfl | exact hs.rowRd 6 rfl | exact hs.rowRd 7 rfl | exact hs.rowRd 8 rfl | exact hs.rowRd 9 rfl | exact hs.rowRd 10 rfl | exact hs.rowRd 11 rfl | exact hs.rowRd 12 rfl | exact hs.rowRd 13 rfl | exact Rd.st (by assumption) hs)) rfl rfl ?_
          refine S_nil ?_
          refine X_seq ?_
          refine T_cutK (α := Nat × Value) (fun a => c < 256 ^ a.1 ∧ a.1 ≤ 20) (fun a => [(3, .int .u64 18446744073709551615), (12, .int .u64 w0), (13, a.2)]) (fun a => [row .i64 (dl 256 a.1 c) a.2]) ?_ ?_
          · clear hg
            refine T_if rfl (fun h => ?_) (fun h => ?_)
            · rw [if_pos h] at hcd
              subst hcd
              have d1 := rdigits_any 1 (by omega)
              refine T_region ?_
              refine S_call _ rfl rfl (bod rfl) (fun w hs => d1 _) rfl rfl ?_
              rintro v1 _ ⟨j1, hj1, hj18, rfl⟩
              refine S_val rfl rfl (Y_assign rfl) ?_
              refine S_nil ?_
              refine X_loop ?_
              exact ⟨(j1, v1), ⟨hj1, by dsimp only; omega⟩, (by repeat (first | exact Env.sub_nil _ | (apply Env.sub_cons; rfl))), Emb.one 1 rfl⟩
            · rw [if_neg h] at hcd
              subst hcd
              refine T_skip ?_
              refine X_loop ?_
              exact ⟨(jc, vc), ⟨hjc, by dsimp only; omega⟩, (by repeat (first | exact Env.sub_nil _ | (apply Env.sub_cons; rfl))), Emb.one 0 rfl⟩
          · clear hjc hjc8 zr hcd
            rintro ⟨jc, vc⟩ ⟨hjc, hjc8⟩
            dsimp only at hjc hjc8 ⊢
            have dw := rdigits_any w0 (by omega)
            have d3 := rdigits_any 3 (by omega)
            obtain ⟨nn, hnn⟩ : ∃ nn : Nat, nn = 18446744073709551615 := ⟨_, rfl⟩
            have dn := rdigits_any nn (by omega)
            rw [show (nn : Int) = 18446744073709551615 by omega] at dn
            refine T_seq ?_
            refine T_region ?_
            refine S_val rfl rfl (Y_move rfl) ?_
            refine S_call _ rfl rfl (bod rfl) (fun w hs => dw _) rfl rfl ?_
            rintro va _ ⟨ja, hja, hja8, rfl⟩
            refine S_val rfl rfl (Y_move rfl) ?_
            refine S_call _ rfl rfl (bod rfl) (fun w hs => dw _) rfl rfl ?_
            rintro vb _ ⟨jb, hjb, hjb8, rfl⟩
            skip
            refine S_callR _ rfl rfl (bod rfl) (fun w hs => ntimes_any w0 w0 ja jb hja hjb (by omega) (by omega) va vb _ (by first | exact hs.rowRd 0 rfl | exact hs.rowRd 1 rfl | exact hs.rowRd 2 rfl | exact hs.rowRd 3 rfl | exact hs.rowRd 4 rfl | exact hs.rowRd 5 rfl | exact hs.rowRd 6 rfl | exact hs.rowRd 7 rfl | exact hs.rowRd 8 rfl | exact hs.rowRd 9 rfl | exact hs.rowRd 10 rfl | exact hs.rowRd 11 rfl | exact hs.rowRd 12 rfl | exact hs.rowRd 13 rfl | exact Rd.st (by assumption) hs) (by first | exact hs.rowRd 0 rfl | exact hs.rowRd 1 rfl | exact hs.rowRd 2 rfl | exact hs.rowRd 3 rfl | exact hs.rowRd 4 rfl | exact hs.rowRd 5 rfl | exact hs.rowRd 6 rfl | exact hs.rowRd 7 rfl | exact hs.rowRd 8 rfl | exact hs.rowRd 9 rfl | exact hs.rowRd 10 rfl | exact hs.rowRd 11 rfl | exact hs.rowRd 12 rfl | exact hs.rowRd 13 rfl | exact Rd.st (by assumption) hs)) rfl rfl fun _ => ?_
            have hww : w0 * w0 < 256 ^ (ja + jb + 1) := by
              rw [Nat.pow_succ, Nat.pow_add]
              have := Nat.mul_lt_mul'' hja hjb
              omega
            generalize w0 * w0 = ww at *
            have tm := fun v1 w h h' => ntimes_any ww c (ja + jb + 1) jc hww hjc (by omega) (by omega) v1 vc w h h'
            have hp : ww * c < 256 ^ (ja + jb + 1 + jc + 1) := by
              rw [Nat.pow_succ _ (ja + jb + 1 + jc), Nat.pow_add _ (ja + jb + 1)]
              have := Nat.mul_lt_mul'' hww hjc
              omega
            generalize ww * c = p at *
            generalize hlp : ja + jb + 1 + jc + 1 = lp at *
            have hlp2 : lp ≤ 60 := by omega
            clear hlp
            refine S_val rfl rfl (Y_move rfl) ?_
            refine S_callR _ rfl rfl (bod rfl) (fun w hs => tm _ _ (by first | exact hs.rowRd 0 rfl | exact hs.rowRd 1 rfl | exact hs.rowRd 2 rfl | exact hs.rowRd 3 rfl | exact hs.rowRd 4 rfl | exact hs.rowRd 5 rfl | exact hs.rowRd 6 rfl | exact hs.rowRd 7 rfl | exact hs.rowRd 8 rfl | exact hs.rowRd 9 rfl | exact hs.rowRd 10 rfl | exact hs.rowRd 11 rfl | exact hs.rowRd 12 rfl | exact hs.rowRd 13 rfl | exact Rd.st (by assumption) hs) (by first | exact hs.rowRd 0 rfl | exact hs.rowRd 1 rfl | exact hs.rowRd 2 rfl | exact hs.rowRd 3 rfl | exact hs.rowRd 4 rfl | exact hs.rowRd 5 rfl | exact hs.rowRd 6 rfl | exact hs.rowRd 7 rfl | exact hs.rowRd 8 rfl | exact hs.rowRd 9 rfl | exact hs.rowRd 10 rfl | exact hs.rowRd 11 rfl | exact hs.rowRd 12 rfl | exact hs.rowRd 13 rfl | exact Rd.st (by assumption) hs)) rfl rfl fun _ => ?_
            skip
            refine S_call _ rfl rfl (bod rfl) (fun w hs => d3 _) rfl rfl ?_
            rintro v3 _ ⟨j3, hj3, hj38, rfl⟩
            have dv := fun v1 w h h' => ndiv_any p 3 lp j3 hp hj3 (by omega) (by omega) v1 v3 w h h'
            have hq2 : p / 3 < 256 ^ lp := Nat.lt_of_le_of_lt (Nat.div_le_self _ _) hp
            skip
            refine S_call _ rfl rfl (bod rfl) (fun w hs => dv _ _ (by first | exact hs.rowRd 0 rfl | exact hs.rowRd 1 rfl | exact hs.rowRd 2 rfl | exact hs.rowRd 3 rfl | exact hs.rowRd 4 rfl | exact hs.rowRd 5 rfl | exact hs.rowRd 6 rfl | exact hs.rowRd 7 rfl | exact hs.rowRd 8 rfl | exact hs.rowRd 9 rfl | exact hs.rowRd 10 rfl | exact hs.rowRd 11 rfl | exact hs.rowRd 12 rfl | exact hs.rowRd 13 rfl | exact Rd.st (by assumption) hs) (by first | exact hs.rowRd 0 rfl | exact hs.rowRd 1 rfl | exact hs.rowRd 2 rfl | exact hs.rowRd 3 rfl | exact hs.rowRd 4 rfl | exact hs.rowRd 5 rfl | exact hs.rowRd 6 rfl | exact hs.rowRd 7 rfl | exact hs.rowRd 8 rfl | exact hs.rowRd 9 rfl | exact hs.rowRd 10 rfl | exact hs.rowRd 11 rfl | exact hs.rowRd 12 rfl | exact hs.rowRd 13 rfl | exact Rd.st (by assumption) hs)) rfl rfl ?_
            rintro _ _ ⟨jr, rr, vq, vr, _, _, _, rfl, rfl⟩
            refine S_val rfl rfl (Y_move rfl) ?_
            refine S_val rfl rfl (Y_extract rfl rfl) ?_
            refine S_val rfl rfl (Y_extract rfl rfl) ?_
            refine S_val rfl rfl (Y_assign rfl) ?_
            refine S_val rfl rfl (Y_assign rfl) ?_
            refine S_nil ?_
            refine X_seq ?_
            refine T_seq ?_
            refine T_seq ?_
            refine T_region ?_
            refine S_val rfl rfl (Y_move rfl) ?_
            refine S_val rfl rfl (Y_move rfl) ?_
            generalize p / 3 = q at *
            refine S_call _ rfl rfl (bod rfl) (fun w hs => dn _) rfl rfl ?_
            rintro vn _ ⟨jn, hjn, hjn8, rfl⟩
            have lss := fun w h h' => nless_any q nn lp jn hq2 hjn (by omega) (by omega) vq vn w h h'
            clear dv tm dw d3 dn hww hja hjb hj3 hjn hp hjc
            by_cases hq : q < nn
            · rw [decide_eq_true hq] at lss
              have hg2 : ((max q 200 : Nat) : Int) = (g : Int) := by omega
              clear hg
              skip
              refine S_callV rfl rfl (bod rfl) (fun w hs => lss _ (by first | exact hs.rowRd 0 rfl | exact hs.rowRd 1 rfl | exact hs.rowRd 2 rfl | exact hs.rowRd 3 rfl | exact hs.rowRd 4 rfl | exact hs.rowRd 5 rfl | exact hs.rowRd 6 rfl | exact hs.rowRd 7 rfl | exact hs.rowRd 8 rfl | exact hs.rowRd 9 rfl | exact hs.rowRd 10 rfl | exact hs.rowRd 11 rfl | exact hs.rowRd 12 rfl | exact hs.rowRd 13 rfl | exact Rd.st (by assumption) hs) (by first | exact hs.rowRd 0 rfl | exact hs.rowRd 1 rfl | exact hs.rowRd 2 rfl | exact hs.rowRd 3 rfl | exact hs.rowRd 4 rfl | exact hs.rowRd 5 rfl | exact hs.rowRd 6 rfl | exact hs.rowRd 7 rfl | exact hs.rowRd 8 rfl | exact hs.rowRd 9 rfl | exact hs.rowRd 10 rfl | exact hs.rowRd 11 rfl | exact hs.rowRd 12 rfl | exact hs.rowRd 13 rfl | exact Rd.st (by assumption) hs)) rfl rfl ?_
              refine S_val rfl rfl (Y_not rfl rfl) ?_
              refine S_nil ?_
              refine X_seq ?_
              refine T_cond_false rfl ?_
              refine T_skip ?_
              refine X_seq ?_
              refine T_seq ?_
              refine T_region ?_
              refine S_val rfl rfl (Y_assign rfl) ?_
              refine S_nil ?_
              refine X_seq ?_
              refine T_seq ?_
              refine T_seq ?_
              refine T_region ?_
              refine S_val rfl rfl (Y_move rfl) ?_
              refine S_val rfl rfl (Y_lenV rfl (und rfl) rfl (fun _ hs => hs.rowRd 6 rfl) (dl_length _ _ _)) ?_
              refine S_val rfl rfl (Y_sub rfl rfl (wi64 (by omega) (by omega))) ?_
              refine S_val rfl rfl (Y_assign rfl) ?_
              refine S_nil ?_
              refine X_seq ?_
              refine T_block ?_
              refine T_loopE (α := Nat) (fun j => j ≤ lp)
                (fun j => [(14, vq), (16, .int .u64 ((q / 256 ^ j : Nat) : Int)), (17, .int .i64 ((j : Int) - 1))])
                (fun j => [row .i64 (dl 256 lp q) vq])
                (fun j => j) lp (Nat.le_refl _) (by rw [Nat.div_eq_of_lt hq2]; exact (by repeat (first | exact Env.sub_nil _ | (apply Env.sub_cons; rfl)))) (Emb.one 6 rfl) ?_
              intro j hj
              have hle : q / 256 ^ j ≤ q := Nat.div_le_self _ _
              by_cases h0 : j = 0
              · subst h0
                have hqq : q / 256 ^ 0 = q := by rw [Nat.pow_zero, Nat.div_one]
                rw [hqq]
                refine T_seq ?_
                refine T_seq ?_
                refine T_region ?_
                refine S_val rfl rfl (Y_move rfl) ?_
                refine S_val rfl rfl (Y_geq_f rfl rfl (by decide)) ?_
                refine S_nil ?_
                refine X_seq ?_
                refine T_cond_false rfl ?_
                refine T_exit ?_
                refine X_seq_exit ?_
                refine X_loop_exit ?_
                refine X_blk_hit rfl ?_
                refine X_seq ?_
                refine T_seq ?_
                refine T_region ?_
                refine S_val rfl rfl (Y_move rfl) ?_
                refine S_val rfl rfl (Y_max rfl rfl (nat_cast _) (nat_lit' _)) ?_
                refine S_val rfl rfl (Y_assign rfl) ?_
                refine S_nil ?_
                refine X_seq ?_
                refine T_ret ?_
                ((first | refine X_fin_ret ?_ | refine X_fin ?_); exact ⟨[_], [], .cons (.tmp rfl) .nil, Emb.nil _, by show Value.int .u64 ((max q 200 : Nat) : Int) = _; rw [hg2], rfl⟩)
              · obtain ⟨i, rfl⟩ : ∃ i, j = i + 1 := ⟨j - 1, by omega⟩
                rw [show (((i + 1 : Nat) : Int) - 1) = (i : Int) by omega]
                have hd := dig256_lt q i
                have hq1 : q / 256 ^ i = q / 256 ^ (i + 1) * 256 + q / 256 ^ i % 256 := by
                  rw [Nat.pow_succ, ← Nat.div_div_eq_div_mul]
                  omega
                have hle2 : q / 256 ^ i ≤ q := Nat.div_le_self _ _
                have hlt : q / 256 ^ (i + 1) * 256 + q / 256 ^ i % 256 < 18446744073709551616 := by omega
                have hm : q / 256 ^ (i + 1) * 256 < 18446744073709551616 := by omega
                clear hle hle2
                refine T_seq ?_
                refine T_seq ?_
                refine T_region ?_
                refine S_val rfl rfl (Y_move rfl) ?_
                refine S_val rfl rfl (Y_geq_t rfl rfl (by omega)) ?_
                refine S_nil ?_
                refine X_seq ?_
                refine T_cond_true rfl ?_
                refine T_skip ?_
                refine X_seq ?_
                refine T_seq ?_
                refine T_block ?_
                refine T_region ?_
                refine S_val rfl rfl (Y_move rfl) ?_
                refine S_val rfl rfl (Y_mulU rfl rfl (nat_cast _) (nat_lit' _) rfl (by simp only [IntKind.bits]; assumption)) ?_
                refine S_val rfl rfl (Y_move rfl) ?_
                refine S_val rfl rfl (Y_move rfl) ?_
                refine S_val rfl rfl (Y_ixV (und rfl) (siz rfl) rfl rfl (fun _ hs => hs.rowRd 0 rfl) (nat_cast _) (dl_lt (by assumption))) ?_
                refine S_val rfl rfl (Y_loadV (und rfl) rfl rfl (fun _ hs => hs.rowRd 0 rfl) (dl_get (by assumption))) ?_
                refine S_val rfl rfl (Y_conv (und rfl) (und rfl) rfl (wu64 (by omega) (by omega))) ?_
                refine S_val rfl rfl (Y_addU rfl rfl (nat_cast _) (nat_cast _) rfl (by simp only [IntKind.bits]; assumption)) ?_
                refine S_val rfl rfl (Y_assign rfl) ?_
                refine S_nil ?_
                refine X_blk ?_
                refine X_seq ?_
                refine T_region ?_
                refine S_val rfl rfl (Y_move rfl) ?_
                refine S_val rfl rfl (Y_sub rfl rfl (wi64 (by omega) (by omega))) ?_
                refine S_val rfl rfl (Y_assign rfl) ?_
                refine S_nil ?_
                rw [← hq1]
                refine X_loop ?_
                exact ⟨i, by omega, by omega, (by repeat (first | exact Env.sub_nil _ | (apply Env.sub_cons; rfl))), Emb.refl _⟩
            · rw [decide_eq_false hq] at lss
              have hg2 : (18446744073709551615 : Int) = (g : Int) := by omega
              clear hg
              skip
              refine S_callV rfl rfl (bod rfl) (fun w hs => lss _ (by first | exact hs.rowRd 0 rfl | exact hs.rowRd 1 rfl | exact hs.rowRd 2 rfl | exact hs.rowRd 3 rfl | exact hs.rowRd 4 rfl | exact hs.rowRd 5 rfl | exact hs.rowRd 6 rfl | exact hs.rowRd 7 rfl | exact hs.rowRd 8 rfl | exact hs.rowRd 9 rfl | exact hs.rowRd 10 rfl | exact hs.rowRd 11 rfl | exact hs.rowRd 12 rfl | exact hs.rowRd 13 rfl | exact Rd.st (by assumption) hs) (by first | exact hs.rowRd 0 rfl | exact hs.rowRd 1 rfl | exact hs.rowRd 2 rfl | exact hs.rowRd 3 rfl | exact hs.rowRd 4 rfl | exact hs.rowRd 5 rfl | exact hs.rowRd 6 rfl | exact hs.rowRd 7 rfl | exact hs.rowRd 8 rfl | exact hs.rowRd 9 rfl | exact hs.rowRd 10 rfl | exact hs.rowRd 11 rfl | exact hs.rowRd 12 rfl | exact hs.rowRd 13 rfl | exact Rd.st (by assumption) hs)) rfl rfl ?_
              refine S_val rfl rfl (Y_not rfl rfl) ?_
              refine S_nil ?_
              refine X_seq ?_
              refine T_cond_true rfl ?_
              refine T_seq ?_
              refine T_region ?_
              refine S_val rfl rfl (Y_move rfl) ?_
              refine S_val rfl rfl (Y_assign rfl) ?_
              refine S_nil ?_
              refine X_seq ?_
              refine T_ret ?_
              refine X_seq_ret ?_
              ((first | refine X_fin_ret ?_ | refine X_fin ?_); exact ⟨[_], [], .cons (.tmp rfl) .nil, Emb.nil _, by show Value.int .u64 18446744073709551615 = _; rw [hg2], rfl⟩)
end Go.Proofs.YtchoncjikdfbgaaDoor
