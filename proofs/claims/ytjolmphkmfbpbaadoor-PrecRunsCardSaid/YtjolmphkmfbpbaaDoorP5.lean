import Derived.Test.YtjolmphkmfbpbaaDoorP0
import Derived.Test.YtjolmphkmfbpbaaDoorP1
import Derived.Test.YtjolmphkmfbpbaaDoorP2
import Derived.Test.YtjolmphkmfbpbaaDoorP3
import Derived.Test.YtjolmphkmfbpbaaDoorP4
/- The reference of layer 9: what an input costs. -/
namespace Go.Proofs.YtjolmphkmfbpbaaDoor
open Go.RowKit
set_option maxRecDepth 20000
set_option maxHeartbeats 4000000
theorem rgas_none (n x : Nat) (hx : x < 256 ^ n) (hn : n ≤ 1000000) (v : Value) (w : World) (hr : Rd w v .u8 (bel n x)) (h : (lenN n x 0 = 0 ∧ lenN n x 2 = 0) ∨ ¬ (lenN n x 0 < 18446744073709551616 ∧ lenN n x 1 < 18446744073709551616 ∧ lenN n x 2 < 18446744073709551616)) :
    Fn Tryd.prog 26 #[v] w fun u N => u = .int .u64 ((gasN n x : Nat) : Int) ∧ N = [] := by
  have lb := fun w h => rlength_any n x 0 hx hn (by omega) v w h
  have le := fun w h => rlength_any n x 1 hx hn (by omega) v w h
  have lm := fun w h => rlength_any n x 2 hx hn (by omega) v w h
  have hg : gasN n x = if lenN n x 0 = 0 ∧ lenN n x 2 = 0 then 200 else if lenN n x 0 < 18446744073709551616 ∧ lenN n x 1 < 18446744073709551616 ∧ lenN n x 2 < 18446744073709551616 then
    min (max (wN (lenN n x 0) (lenN n x 2) * wN (lenN n x 0) (lenN n x 2) * cntN (headN n x) (lenN n x 1) / 3) 200) 18446744073709551615 else 18446744073709551615 := rfl
  generalize gasN n x = g at *
  generalize headN n x = hd at *
  generalize lenN n x 0 = b at *
  generalize lenN n x 1 = e at *
  generalize lenN n x 2 = m at *
  by_cases h1 : b = 0 ∧ m = 0
  · obtain ⟨h1, h2⟩ := h1
    rw [if_pos ⟨h1, h2⟩] at hg
    rw [if_pos (by omega), decide_eq_true (by omega)] at lb
    rw [if_pos (by omega), decide_eq_true (by omega)] at lm
    generalize decide (e < 18446744073709551616) = be at *
    generalize (if e < 18446744073709551616 then e else 0) = e2 at *
    clear h
    subst hg
    refine Fn_of (args := [v]) Tryd.func26 rfl Tryd.ntmps26 Tryd.results26 (by simp) ?_
    refine T_sr ?_
    refine S_as rfl rfl rfl ?_
    refine S_nx ?_
    refine T_sr ?_
    refine S_as rfl rfl rfl ?_
    refine S_nx ?_
    refine T_sr ?_
    refine S_mv rfl rfl rfl ?_
    refine S_callV rfl rfl (bod rfl) (fun w hs => lb _ (by first | exact hs.rowRd 0 rfl | exact hs.rowRd 1 rfl | exact hs.rowRd 2 rfl | exact hs.rowRd 3 rfl | exact hs.rowRd 4 rfl | exact hs.rowRd 5 rfl | exact hs.rowRd 6 rfl | exact hs.rowRd 7 rfl | exact hs.rowRd 8 rfl | exact hs.rowRd 9 rfl | exact hs.rowRd 10 rfl | exact hs.rowRd 11 rfl | exact hs.rowRd 12 rfl | exact hs.rowRd 13 rfl | exact Rd.st (by assumption) hs)) rfl rfl ?_
    refine S_mv rfl rfl rfl ?_
    refine S_val rfl rfl (Y_extract rfl rfl) ?_
    refine S_val rfl rfl (Y_extract rfl rfl) ?_
    refine S_as rfl rfl rfl ?_
    refine S_as rfl rfl rfl ?_
    refine S_nx ?_
    refine T_sr ?_
    refine S_mv rfl rfl rfl ?_
    refine S_callV rfl rfl (bod rfl) (fun w hs => le _ (by first | exact hs.rowRd 0 rfl | exact hs.rowRd 1 rfl | exact hs.rowRd 2 rfl | exact hs.rowRd 3 rfl | exact hs.rowRd 4 rfl | exact hs.rowRd 5 rfl | exact hs.rowRd 6 rfl | exact hs.rowRd 7 rfl | exact hs.rowRd 8 rfl | exact hs.rowRd 9 rfl | exact hs.rowRd 10 rfl | exact hs.rowRd 11 rfl | exact hs.rowRd 12 rfl | exact hs.rowRd 13 rfl | exact Rd.st (by assumption) hs)) rfl rfl ?_
    refine S_mv rfl rfl rfl ?_
    refine S_val rfl rfl (Y_extract rfl rfl) ?_
    refine S_val rfl rfl (Y_extract rfl rfl) ?_
    refine S_as rfl rfl rfl ?_
    refine S_as rfl rfl rfl ?_
    refine S_nx ?_
    refine T_sr ?_
    refine S_mv rfl rfl rfl ?_
    refine S_callV rfl rfl (bod rfl) (fun w hs => lm _ (by first | exact hs.rowRd 0 rfl | exact hs.rowRd 1 rfl | exact hs.rowRd 2 rfl | exact hs.rowRd 3 rfl | exact hs.rowRd 4 rfl | exact hs.rowRd 5 rfl | exact hs.rowRd 6 rfl | exact hs.rowRd 7 rfl | exact hs.rowRd 8 rfl | exact hs.rowRd 9 rfl | exact hs.rowRd 10 rfl | exact hs.rowRd 11 rfl | exact hs.rowRd 12 rfl | exact hs.rowRd 13 rfl | exact Rd.st (by assumption) hs)) rfl rfl ?_
    refine S_mv rfl rfl rfl ?_
    refine S_val rfl rfl (Y_extract rfl rfl) ?_
    refine S_val rfl rfl (Y_extract rfl rfl) ?_
    refine S_as rfl rfl rfl ?_
    refine S_as rfl rfl rfl ?_
    refine S_nx ?_
    refine T_seq ?_
    refine T_sr ?_
    refine S_mv rfl rfl rfl ?_
    refine S_mv rfl rfl rfl ?_
    refine S_mv rfl rfl rfl ?_
    refine S_val rfl rfl (Y_pick_t rfl rfl) ?_
    refine S_mv rfl rfl rfl ?_
    refine S_mv rfl rfl rfl ?_
    refine S_val rfl rfl (Y_eql_t rfl rfl (by omega)) ?_
    refine S_val rfl rfl (Y_pick_t rfl rfl) ?_
    refine S_mv rfl rfl rfl ?_
    refine S_mv rfl rfl rfl ?_
    refine S_val rfl rfl (Y_eql_t rfl rfl (by omega)) ?_
    refine S_val rfl rfl (Y_pick_t rfl rfl) ?_
    refine S_nx ?_
    refine T_cond_true rfl ?_
    refine T_sr ?_
    refine S_as rfl rfl rfl ?_
    refine S_nx ?_
    refine T_ret ?_
    refine X_seq_ret ?_
    ((first | refine X_fin_ret ?_ | refine X_fin ?_); exact ⟨[_], [], .cons (.tmp rfl) .nil, Emb.nil _, rfl, rfl⟩)
  · rw [if_neg h1, if_neg (by omega)] at hg
    subst hg
    by_cases hb : b < 18446744073709551616
    · rw [if_pos hb, decide_eq_true hb] at lb
      by_cases hm : m < 18446744073709551616
      · rw [if_pos hm, decide_eq_true hm] at lm
        have he : ¬ e < 18446744073709551616 := by omega
        rw [if_neg he, decide_eq_false he] at le
        clear h
        by_cases hb0 : b = 0
        · have hm0 : ¬ m = 0 := by omega
          refine Fn_of (args := [v]) Tryd.func26 rfl Tryd.ntmps26 Tryd.results26 (by simp) ?_
          refine T_sr ?_
          refine S_as rfl rfl rfl ?_
          refine S_nx ?_
          refine T_sr ?_
          refine S_as rfl rfl rfl ?_
          refine S_nx ?_
          refine T_sr ?_
          refine S_mv rfl rfl rfl ?_
          refine S_callV rfl rfl (bod rfl) (fun w hs => lb _ (by first | exact hs.rowRd 0 rfl | exact hs.rowRd 1 rfl | exact hs.rowRd 2 rfl | exact hs.rowRd 3 rfl | exact hs.rowRd 4 rfl | exact hs.rowRd 5 rfl | exact hs.rowRd 6 rfl | exact hs.rowRd 7 rfl | exact hs.rowRd 8 rfl | exact hs.rowRd 9 rfl | exact hs.rowRd 10 rfl | exact hs.rowRd 11 rfl | exact hs.rowRd 12 rfl | exact hs.rowRd 13 rfl | exact Rd.st (by assumption) hs)) rfl rfl ?_
          refine S_mv rfl rfl rfl ?_
          refine S_val rfl rfl (Y_extract rfl rfl) ?_
          refine S_val rfl rfl (Y_extract rfl rfl) ?_
          refine S_as rfl rfl rfl ?_
          refine S_as rfl rfl rfl ?_
          refine S_nx ?_
          refine T_sr ?_
          refine S_mv rfl rfl rfl ?_
          refine S_callV rfl rfl (bod rfl) (fun w hs => le _ (by first | exact hs.rowRd 0 rfl | exact hs.rowRd 1 rfl | exact hs.rowRd 2 rfl | exact hs.rowRd 3 rfl | exact hs.rowRd 4 rfl | exact hs.rowRd 5 rfl | exact hs.rowRd 6 rfl | exact hs.rowRd 7 rfl | exact hs.rowRd 8 rfl | exact hs.rowRd 9 rfl | exact hs.rowRd 10 rfl | exact hs.rowRd 11 rfl | exact hs.rowRd 12 rfl | exact hs.rowRd 13 rfl | exact Rd.st (by assumption) hs)) rfl rfl ?_
          refine S_mv rfl rfl rfl ?_
          refine S_val rfl rfl (Y_extract rfl rfl) ?_
          refine S_val rfl rfl (Y_extract rfl rfl) ?_
          refine S_as rfl rfl rfl ?_
          refine S_as rfl rfl rfl ?_
          refine S_nx ?_
          refine T_sr ?_
          refine S_mv rfl rfl rfl ?_
          refine S_callV rfl rfl (bod rfl) (fun w hs => lm _ (by first | exact hs.rowRd 0 rfl | exact hs.rowRd 1 rfl | exact hs.rowRd 2 rfl | exact hs.rowRd 3 rfl | exact hs.rowRd 4 rfl | exact hs.rowRd 5 rfl | exact hs.rowRd 6 rfl | exact hs.rowRd 7 rfl | exact hs.rowRd 8 rfl | exact hs.rowRd 9 rfl | exact hs.rowRd 10 rfl | exact hs.rowRd 11 rfl | exact hs.rowRd 12 rfl | exact hs.rowRd 13 rfl | exact Rd.st (by assumption) hs)) rfl rfl ?_
          refine S_mv rfl rfl rfl ?_
          refine S_val rfl rfl (Y_extract rfl rfl) ?_
          refine S_val rfl rfl (Y_extract rfl rfl) ?_
          refine S_as rfl rfl rfl ?_
          refine S_as rfl rfl rfl ?_
          refine S_nx ?_
          refine T_seq ?_
          refine T_sr ?_
          refine S_mv rfl rfl rfl ?_
          refine S_mv rfl rfl rfl ?_
          refine S_mv rfl rfl rfl ?_
          refine S_val rfl rfl (Y_pick_t rfl rfl) ?_
          refine S_mv rfl rfl rfl ?_
          refine S_mv rfl rfl rfl ?_
          refine S_val rfl rfl (Y_eql_t rfl rfl (by omega)) ?_
          refine S_val rfl rfl (Y_pick_t rfl rfl) ?_
          refine S_mv rfl rfl rfl ?_
          refine S_mv rfl rfl rfl ?_
          refine S_val rfl rfl (Y_eql_f rfl rfl (by omega)) ?_
          refine S_val rfl rfl (Y_pick_t rfl rfl) ?_
          refine S_nx ?_
          refine T_cond_false rfl ?_
          refine T_skip ?_
          refine X_seq ?_
          refine T_seq ?_
          refine T_sr ?_
          refine S_mv rfl rfl rfl ?_
          refine S_val rfl rfl (Y_not rfl rfl) ?_
          refine S_mv rfl rfl rfl ?_
          refine S_mv rfl rfl rfl ?_
          refine S_val rfl rfl (Y_not rfl rfl) ?_
          refine S_val rfl rfl (Y_pick_f rfl rfl) ?_
          refine S_mv rfl rfl rfl ?_
          refine S_skip rfl rfl ?_
          refine S_skip rfl rfl ?_
          refine S_val rfl rfl (Y_pick_t rfl rfl) ?_
          refine S_nx ?_
          refine T_cond_true rfl ?_
          refine T_sr ?_
          refine S_mv rfl rfl rfl ?_
          refine S_as rfl rfl rfl ?_
          refine S_nx ?_
          refine T_ret ?_
          refine X_seq_ret ?_
          ((first | refine X_fin_ret ?_ | refine X_fin ?_); exact ⟨[_], [], .cons (.tmp rfl) .nil, Emb.nil _, rfl, rfl⟩)
        · skip
          refine Fn_of (args := [v]) Tryd.func26 rfl Tryd.ntmps26 Tryd.results26 (by simp) ?_
          refine T_sr ?_
          refine S_as rfl rfl rfl ?_
          refine S_nx ?_
          refine T_sr ?_
          refine S_as rfl rfl rfl ?_
          refine S_nx ?_
          refine T_sr ?_
          refine S_mv rfl rfl rfl ?_
          refine S_callV rfl rfl (bod rfl) (fun w hs => lb _ (by first | exact hs.rowRd 0 rfl | exact hs.rowRd 1 rfl | exact hs.rowRd 2 rfl | exact hs.rowRd 3 rfl | exact hs.rowRd 4 rfl | exact hs.rowRd 5 rfl | exact hs.rowRd 6 rfl | exact hs.rowRd 7 rfl | exact hs.rowRd 8 rfl | exact hs.rowRd 9 rfl | exact hs.rowRd 10 rfl | exact hs.rowRd 11 rfl | exact hs.rowRd 12 rfl | exact hs.rowRd 13 rfl | exact Rd.st (by assumption) hs)) rfl rfl ?_
          refine S_mv rfl rfl rfl ?_
          refine S_val rfl rfl (Y_extract rfl rfl) ?_
          refine S_val rfl rfl (Y_extract rfl rfl) ?_
          refine S_as rfl rfl rfl ?_
          refine S_as rfl rfl rfl ?_
          refine S_nx ?_
          refine T_sr ?_
          refine S_mv rfl rfl rfl ?_
          refine S_callV rfl rfl (bod rfl) (fun w hs => le _ (by first | exact hs.rowRd 0 rfl | exact hs.rowRd 1 rfl | exact hs.rowRd 2 rfl | exact hs.rowRd 3 rfl | exact hs.rowRd 4 rfl | exact hs.rowRd 5 rfl | exact hs.rowRd 6 rfl | exact hs.rowRd 7 rfl | exact hs.rowRd 8 rfl | exact hs.rowRd 9 rfl | exact hs.rowRd 10 rfl | exact hs.rowRd 11 rfl | exact hs.rowRd 12 rfl | exact hs.rowRd 13 rfl | exact Rd.st (by assumption) hs)) rfl rfl ?_
          refine S_mv rfl rfl rfl ?_
          refine S_val rfl rfl (Y_extract rfl rfl) ?_
          refine S_val rfl rfl (Y_extract rfl rfl) ?_
          refine S_as rfl rfl rfl ?_
          refine S_as rfl rfl rfl ?_
          refine S_nx ?_
          refine T_sr ?_
          refine S_mv rfl rfl rfl ?_
          refine S_callV rfl rfl (bod rfl) (fun w hs => lm _ (by first | exact hs.rowRd 0 rfl | exact hs.rowRd 1 rfl | exact hs.rowRd 2 rfl | exact hs.rowRd 3 rfl | exact hs.rowRd 4 rfl | exact hs.rowRd 5 rfl | exact hs.rowRd 6 rfl | exact hs.rowRd 7 rfl | exact hs.rowRd 8 rfl | exact hs.rowRd 9 rfl | exact hs.rowRd 10 rfl | exact hs.rowRd 11 rfl | exact hs.rowRd 12 rfl | exact hs.rowRd 13 rfl | exact Rd.st (by assumption) hs)) rfl rfl ?_
          refine S_mv rfl rfl rfl ?_
          refine S_val rfl rfl (Y_extract rfl rfl) ?_
          refine S_val rfl rfl (Y_extract rfl rfl) ?_
          refine S_as rfl rfl rfl ?_
          refine S_as rfl rfl rfl ?_
          refine S_nx ?_
          refine T_seq ?_
          refine T_sr ?_
          refine S_mv rfl rfl rfl ?_
          refine S_mv rfl rfl rfl ?_
          refine S_mv rfl rfl rfl ?_
          refine S_val rfl rfl (Y_pick_t rfl rfl) ?_
          refine S_mv rfl rfl rfl ?_
          refine S_mv rfl rfl rfl ?_
          refine S_val rfl rfl (Y_eql_f rfl rfl (by omega)) ?_
          refine S_val rfl rfl (Y_pick_t rfl rfl) ?_
          refine S_mv rfl rfl rfl ?_
          refine S_skip rfl rfl ?_
          refine S_skip rfl rfl ?_
          refine S_val rfl rfl (Y_pick_f rfl rfl) ?_
          refine S_nx ?_
          refine T_cond_false rfl ?_
          refine T_skip ?_
          refine X_seq ?_
          refine T_seq ?_
          refine T_sr ?_
          refine S_mv rfl rfl rfl ?_
          refine S_val rfl rfl (Y_not rfl rfl) ?_
          refine S_mv rfl rfl rfl ?_
          refine S_mv rfl rfl rfl ?_
          refine S_val rfl rfl (Y_not rfl rfl) ?_
          refine S_val rfl rfl (Y_pick_f rfl rfl) ?_
          refine S_mv rfl rfl rfl ?_
          refine S_skip rfl rfl ?_
          refine S_skip rfl rfl ?_
          refine S_val rfl rfl (Y_pick_t rfl rfl) ?_
          refine S_nx ?_
          refine T_cond_true rfl ?_
          refine T_sr ?_
          refine S_mv rfl rfl rfl ?_
          refine S_as rfl rfl rfl ?_
          refine S_nx ?_
          refine T_ret ?_
          refine X_seq_ret ?_
          ((first | refine X_fin_ret ?_ | refine X_fin ?_); exact ⟨[_], [], .cons (.tmp rfl) .nil, Emb.nil _, rfl, rfl⟩)
      · rw [if_neg hm, decide_eq_false hm] at lm
        by_cases he : e < 18446744073709551616
        · rw [if_pos he, decide_eq_true he] at le
          clear h h1
          refine Fn_of (args := [v]) Tryd.func26 rfl Tryd.ntmps26 Tryd.results26 (by simp) ?_
          refine T_sr ?_
          refine S_as rfl rfl rfl ?_
          refine S_nx ?_
          refine T_sr ?_
          refine S_as rfl rfl rfl ?_
          refine S_nx ?_
          refine T_sr ?_
          refine S_mv rfl rfl rfl ?_
          refine S_callV rfl rfl (bod rfl) (fun w hs => lb _ (by first | exact hs.rowRd 0 rfl | exact hs.rowRd 1 rfl | exact hs.rowRd 2 rfl | exact hs.rowRd 3 rfl | exact hs.rowRd 4 rfl | exact hs.rowRd 5 rfl | exact hs.rowRd 6 rfl | exact hs.rowRd 7 rfl | exact hs.rowRd 8 rfl | exact hs.rowRd 9 rfl | exact hs.rowRd 10 rfl | exact hs.rowRd 11 rfl | exact hs.rowRd 12 rfl | exact hs.rowRd 13 rfl | exact Rd.st (by assumption) hs)) rfl rfl ?_
          refine S_mv rfl rfl rfl ?_
          refine S_val rfl rfl (Y_extract rfl rfl) ?_
          refine S_val rfl rfl (Y_extract rfl rfl) ?_
          refine S_as rfl rfl rfl ?_
          refine S_as rfl rfl rfl ?_
          refine S_nx ?_
          refine T_sr ?_
          refine S_mv rfl rfl rfl ?_
          refine S_callV rfl rfl (bod rfl) (fun w hs => le _ (by first | exact hs.rowRd 0 rfl | exact hs.rowRd 1 rfl | exact hs.rowRd 2 rfl | exact hs.rowRd 3 rfl | exact hs.rowRd 4 rfl | exact hs.rowRd 5 rfl | exact hs.rowRd 6 rfl | exact hs.rowRd 7 rfl | exact hs.rowRd 8 rfl | exact hs.rowRd 9 rfl | exact hs.rowRd 10 rfl | exact hs.rowRd 11 rfl | exact hs.rowRd 12 rfl | exact hs.rowRd 13 rfl | exact Rd.st (by assumption) hs)) rfl rfl ?_
          refine S_mv rfl rfl rfl ?_
          refine S_val rfl rfl (Y_extract rfl rfl) ?_
          refine S_val rfl rfl (Y_extract rfl rfl) ?_
          refine S_as rfl rfl rfl ?_
          refine S_as rfl rfl rfl ?_
          refine S_nx ?_
          refine T_sr ?_
          refine S_mv rfl rfl rfl ?_
          refine S_callV rfl rfl (bod rfl) (fun w hs => lm _ (by first | exact hs.rowRd 0 rfl | exact hs.rowRd 1 rfl | exact hs.rowRd 2 rfl | exact hs.rowRd 3 rfl | exact hs.rowRd 4 rfl | exact hs.rowRd 5 rfl | exact hs.rowRd 6 rfl | exact hs.rowRd 7 rfl | exact hs.rowRd 8 rfl | exact hs.rowRd 9 rfl | exact hs.rowRd 10 rfl | exact hs.rowRd 11 rfl | exact hs.rowRd 12 rfl | exact hs.rowRd 13 rfl | exact Rd.st (by assumption) hs)) rfl rfl ?_
          refine S_mv rfl rfl rfl ?_
          refine S_val rfl rfl (Y_extract rfl rfl) ?_
          refine S_val rfl rfl (Y_extract rfl rfl) ?_
          refine S_as rfl rfl rfl ?_
          refine S_as rfl rfl rfl ?_
          refine S_nx ?_
          refine T_seq ?_
          refine T_sr ?_
          refine S_mv rfl rfl rfl ?_
          refine S_mv rfl rfl rfl ?_
          refine S_mv rfl rfl rfl ?_
          refine S_val rfl rfl (Y_pick_t rfl rfl) ?_
          refine S_mv rfl rfl rfl ?_
          refine S_skip rfl rfl ?_
          refine S_skip rfl rfl ?_
          refine S_val rfl rfl (Y_pick_f rfl rfl) ?_
          refine S_mv rfl rfl rfl ?_
          refine S_skip rfl rfl ?_
          refine S_skip rfl rfl ?_
          refine S_val rfl rfl (Y_pick_f rfl rfl) ?_
          refine S_nx ?_
          refine T_cond_false rfl ?_
          refine T_skip ?_
          refine X_seq ?_
          refine T_seq ?_
          refine T_sr ?_
          refine S_mv rfl rfl rfl ?_
          refine S_val rfl rfl (Y_not rfl rfl) ?_
          refine S_mv rfl rfl rfl ?_
          refine S_mv rfl rfl rfl ?_
          refine S_val rfl rfl (Y_not rfl rfl) ?_
          refine S_val rfl rfl (Y_pick_f rfl rfl) ?_
          refine S_mv rfl rfl rfl ?_
          refine S_mv rfl rfl rfl ?_
          refine S_val rfl rfl (Y_not rfl rfl) ?_
          refine S_val rfl rfl (Y_pick_f rfl rfl) ?_
          refine S_nx ?_
          refine T_cond_true rfl ?_
          refine T_sr ?_
          refine S_mv rfl rfl rfl ?_
          refine S_as rfl rfl rfl ?_
          refine S_nx ?_
          refine T_ret ?_
          refine X_seq_ret ?_
          ((first | refine X_fin_ret ?_ | refine X_fin ?_); exact ⟨[_], [], .cons (.tmp rfl) .nil, Emb.nil _, rfl, rfl⟩)
        · rw [if_neg he, decide_eq_false he] at le
          clear h h1
          refine Fn_of (args := [v]) Tryd.func26 rfl Tryd.ntmps26 Tryd.results26 (by simp) ?_
          refine T_sr ?_
          refine S_as rfl rfl rfl ?_
          refine S_nx ?_
          refine T_sr ?_
          refine S_as rfl rfl rfl ?_
          refine S_nx ?_
          refine T_sr ?_
          refine S_mv rfl rfl rfl ?_
          refine S_callV rfl rfl (bod rfl) (fun w hs => lb _ (by first | exact hs.rowRd 0 rfl | exact hs.rowRd 1 rfl | exact hs.rowRd 2 rfl | exact hs.rowRd 3 rfl | exact hs.rowRd 4 rfl | exact hs.rowRd 5 rfl | exact hs.rowRd 6 rfl | exact hs.rowRd 7 rfl | exact hs.rowRd 8 rfl | exact hs.rowRd 9 rfl | exact hs.rowRd 10 rfl | exact hs.rowRd 11 rfl | exact hs.rowRd 12 rfl | exact hs.rowRd 13 rfl | exact Rd.st (by assumption) hs)) rfl rfl ?_
          refine S_mv rfl rfl rfl ?_
          refine S_val rfl rfl (Y_extract rfl rfl) ?_
          refine S_val rfl rfl (Y_extract rfl rfl) ?_
          refine S_as rfl rfl rfl ?_
          refine S_as rfl rfl rfl ?_
          refine S_nx ?_
          refine T_sr ?_
          refine S_mv rfl rfl rfl ?_
          refine S_callV rfl rfl (bod rfl) (fun w hs => le _ (by first | exact hs.rowRd 0 rfl | exact hs.rowRd 1 rfl | exact hs.rowRd 2 rfl | exact hs.rowRd 3 rfl | exact hs.rowRd 4 rfl | exact hs.rowRd 5 rfl | exact hs.rowRd 6 rfl | exact hs.rowRd 7 rfl | exact hs.rowRd 8 rfl | exact hs.rowRd 9 rfl | exact hs.rowRd 10 rfl | exact hs.rowRd 11 rfl | exact hs.rowRd 12 rfl | exact hs.rowRd 13 rfl | exact Rd.st (by assumption) hs)) rfl rfl ?_
          refine S_mv rfl rfl rfl ?_
          refine S_val rfl rfl (Y_extract rfl rfl) ?_
          refine S_val rfl rfl (Y_extract rfl rfl) ?_
          refine S_as rfl rfl rfl ?_
          refine S_as rfl rfl rfl ?_
          refine S_nx ?_
          refine T_sr ?_
          refine S_mv rfl rfl rfl ?_
          refine S_callV rfl rfl (bod rfl) (fun w hs => lm _ (by first | exact hs.rowRd 0 rfl | exact hs.rowRd 1 rfl | exact hs.rowRd 2 rfl | exact hs.rowRd 3 rfl | exact hs.rowRd 4 rfl | exact hs.rowRd 5 rfl | exact hs.rowRd 6 rfl | exact hs.rowRd 7 rfl | exact hs.rowRd 8 rfl | exact hs.rowRd 9 rfl | exact hs.rowRd 10 rfl | exact hs.rowRd 11 rfl | exact hs.rowRd 12 rfl | exact hs.rowRd 13 rfl | exact Rd.st (by assumption) hs)) rfl rfl ?_
          refine S_mv rfl rfl rfl ?_
          refine S_val rfl rfl (Y_extract rfl rfl) ?_
          refine S_val rfl rfl (Y_extract rfl rfl) ?_
          refine S_as rfl rfl rfl ?_
          refine S_as rfl rfl rfl ?_
          refine S_nx ?_
          refine T_seq ?_
          refine T_sr ?_
          refine S_mv rfl rfl rfl ?_
          refine S_mv rfl rfl rfl ?_
          refine S_mv rfl rfl rfl ?_
          refine S_val rfl rfl (Y_pick_t rfl rfl) ?_
          refine S_mv rfl rfl rfl ?_
          refine S_skip rfl rfl ?_
          refine S_skip rfl rfl ?_
          refine S_val rfl rfl (Y_pick_f rfl rfl) ?_
          refine S_mv rfl rfl rfl ?_
          refine S_skip rfl rfl ?_
          refine S_skip rfl rfl ?_
          refine S_val rfl rfl (Y_pick_f rfl rfl) ?_
          refine S_nx ?_
          refine T_cond_false rfl ?_
          refine T_skip ?_
          refine X_seq ?_
          refine T_seq ?_
          refine T_sr ?_
          refine S_mv rfl rfl rfl ?_
          refine S_val rfl rfl (Y_not rfl rfl) ?_
          refine S_mv rfl rfl rfl ?_
          refine S_mv rfl rfl rfl ?_
          refine S_val rfl rfl (Y_not rfl rfl) ?_
          refine S_val rfl rfl (Y_pick_f rfl rfl) ?_
          refine S_mv rfl rfl rfl ?_
          refine S_skip rfl rfl ?_
          refine S_skip rfl rfl ?_
          refine S_val rfl rfl (Y_pick_t rfl rfl) ?_
          refine S_nx ?_
          refine T_cond_true rfl ?_
          refine T_sr ?_
          refine S_mv rfl rfl rfl ?_
          refine S_as rfl rfl rfl ?_
          refine S_nx ?_
          refine T_ret ?_
          refine X_seq_ret ?_
          ((first | refine X_fin_ret ?_ | refine X_fin ?_); exact ⟨[_], [], .cons (.tmp rfl) .nil, Emb.nil _, rfl, rfl⟩)
    · rw [if_neg hb, decide_eq_false hb] at lb
      clear h h1
      generalize decide (e < 18446744073709551616) = be at *
      generalize (if e < 18446744073709551616 then e else 0) = e2 at *
      generalize decide (m < 18446744073709551616) = bm at *
      generalize (if m < 18446744073709551616 then m else 0) = m2 at *
      refine Fn_of (args := [v]) Tryd.func26 rfl Tryd.ntmps26 Tryd.results26 (by simp) ?_
      refine T_sr ?_
      refine S_as rfl rfl rfl ?_
      refine S_nx ?_
      refine T_sr ?_
      refine S_as rfl rfl rfl ?_
      refine S_nx ?_
      refine T_sr ?_
      refine S_mv rfl rfl rfl ?_
      refine S_callV rfl rfl (bod rfl) (fun w hs => lb _ (by first | exact hs.rowRd 0 rfl | exact hs.rowRd 1 rfl | exact hs.rowRd 2 rfl | exact hs.rowRd 3 rfl | exact hs.rowRd 4 rfl | exact hs.rowRd 5 rfl | exact hs.rowRd 6 rfl | exact hs.rowRd 7 rfl | exact hs.rowRd 8 rfl | exact hs.rowRd 9 rfl | exact hs.rowRd 10 rfl | exact hs.rowRd 11 rfl | exact hs.rowRd 12 rfl | exact hs.rowRd 13 rfl | exact Rd.st (by assumption) hs)) rfl rfl ?_
      refine S_mv rfl rfl rfl ?_
      refine S_val rfl rfl (Y_extract rfl rfl) ?_
      refine S_val rfl rfl (Y_extract rfl rfl) ?_
      refine S_as rfl rfl rfl ?_
      refine S_as rfl rfl rfl ?_
      refine S_nx ?_
      refine T_sr ?_
      refine S_mv rfl rfl rfl ?_
      refine S_callV rfl rfl (bod rfl) (fun w hs => le _ (by first | exact hs.rowRd 0 rfl | exact hs.rowRd 1 rfl | exact hs.rowRd 2 rfl | exact hs.rowRd 3 rfl | exact hs.rowRd 4 rfl | exact hs.rowRd 5 rfl | exact hs.rowRd 6 rfl | exact hs.rowRd 7 rfl | exact hs.rowRd 8 rfl | exact hs.rowRd 9 rfl | exact hs.rowRd 10 rfl | exact hs.rowRd 11 rfl | exact hs.rowRd 12 rfl | exact hs.rowRd 13 rfl | exact Rd.st (by assumption) hs)) rfl rfl ?_
      refine S_mv rfl rfl rfl ?_
      refine S_val rfl rfl (Y_extract rfl rfl) ?_
      refine S_val rfl rfl (Y_extract rfl rfl) ?_
      refine S_as rfl rfl rfl ?_
      refine S_as rfl rfl rfl ?_
      refine S_nx ?_
      refine T_sr ?_
      refine S_mv rfl rfl rfl ?_
      refine S_callV rfl rfl (bod rfl) (fun w hs => lm _ (by first | exact hs.rowRd 0 rfl | exact hs.rowRd 1 rfl | exact hs.rowRd 2 rfl | exact hs.rowRd 3 rfl | exact hs.rowRd 4 rfl | exact hs.rowRd 5 rfl | exact hs.rowRd 6 rfl | exact hs.rowRd 7 rfl | exact hs.rowRd 8 rfl | exact hs.rowRd 9 rfl | exact hs.rowRd 10 rfl | exact hs.rowRd 11 rfl | exact hs.rowRd 12 rfl | exact hs.rowRd 13 rfl | exact Rd.st (by assumption) hs)) rfl rfl ?_
      refine S_mv rfl rfl rfl ?_
      refine S_val rfl rfl (Y_extract rfl rfl) ?_
      refine S_val rfl rfl (Y_extract rfl rfl) ?_
      refine S_as rfl rfl rfl ?_
      refine S_as rfl rfl rfl ?_
      refine S_nx ?_
      refine T_seq ?_
      refine T_sr ?_
      refine S_mv rfl rfl rfl ?_
      refine S_mv rfl rfl rfl ?_
      refine S_skip rfl rfl ?_
      refine S_val rfl rfl (Y_pick_f rfl rfl) ?_
      refine S_mv rfl rfl rfl ?_
      refine S_skip rfl rfl ?_
      refine S_skip rfl rfl ?_
      refine S_val rfl rfl (Y_pick_f rfl rfl) ?_
      refine S_mv rfl rfl rfl ?_
      refine S_skip rfl rfl ?_
      refine S_skip rfl rfl ?_
      refine S_val rfl rfl (Y_pick_f rfl rfl) ?_
      refine S_nx ?_
      refine T_cond_false rfl ?_
      refine T_skip ?_
      refine X_seq ?_
      refine T_seq ?_
      refine T_sr ?_
      refine S_mv rfl rfl rfl ?_
      refine S_val rfl rfl (Y_not rfl rfl) ?_
      refine S_mv rfl rfl rfl ?_
      refine S_skip rfl rfl ?_
      refine S_skip rfl rfl ?_
      refine S_val rfl rfl (Y_pick_t rfl rfl) ?_
      refine S_mv rfl rfl rfl ?_
      refine S_skip rfl rfl ?_
      refine S_skip rfl rfl ?_
      refine S_val rfl rfl (Y_pick_t rfl rfl) ?_
      refine S_nx ?_
      refine T_cond_true rfl ?_
      refine T_sr ?_
      refine S_mv rfl rfl rfl ?_
      refine S_as rfl rfl rfl ?_
      refine S_nx ?_
      refine T_ret ?_
      refine X_seq_ret ?_
      ((first | refine X_fin_ret ?_ | refine X_fin ?_); exact ⟨[_], [], .cons (.tmp rfl) .nil, Emb.nil _, rfl, rfl⟩)
theorem rgas_some (n x : Nat) (hx : x < 256 ^ n) (hn : n ≤ 1000000) (v : Value) (w : World) (hr : Rd w v .u8 (bel n x)) (hne : ¬ (lenN n x 0 = 0 ∧ lenN n x 2 = 0)) (hb : lenN n x 0 < 18446744073709551616) (he : lenN n x 1 < 18446744073709551616) (hm : lenN n x 2 < 18446744073709551616) :
    Fn Tryd.prog 26 #[v] w fun u N => u = .int .u64 ((gasN n x : Nat) : Int) ∧ N = [] := by
  have lb := fun w h => rlength_any n x 0 hx hn (by omega) v w h
  have le := fun w h => rlength_any n x 1 hx hn (by omega) v w h
  have lm := fun w h => rlength_any n x 2 hx hn (by omega) v w h
  have hh2 := headN_lt2 n x
  have hh1 := headN_lt n x
  have hf := headN_far (n := n) (x := x)
  have pt := fun at_ hat w h => rpart_any n x at_ (min (lenN n x 1) 32) hx hn hat (by omega) v w h
  have hhd : headN n x = qN n x (96 + lenN n x 0 + min (lenN n x 1) 32) % 256 ^ min (lenN n x 1) 32 := rfl
  have hg : gasN n x = if lenN n x 0 = 0 ∧ lenN n x 2 = 0 then 200 else if lenN n x 0 < 18446744073709551616 ∧ lenN n x 1 < 18446744073709551616 ∧ lenN n x 2 < 18446744073709551616 then
    min (max (wN (lenN n x 0) (lenN n x 2) * wN (lenN n x 0) (lenN n x 2) * cntN (headN n x) (lenN n x 1) / 3) 200) 18446744073709551615 else 18446744073709551615 := rfl
  rw [if_neg hne, if_pos ⟨hb, he, hm⟩] at hg
  rw [if_pos hb, decide_eq_true hb] at lb
  rw [if_pos he, decide_eq_true he] at le
  rw [if_pos hm, decide_eq_true hm] at lm
  generalize gasN n x = g at *
  generalize headN n x = hd at *
  generalize lenN n x 0 = b at *
  generalize lenN n x 1 = e at *
  generalize lenN n x 2 = m at *
  refine Fn_of (args := [v]) Tryd.func26 rfl Tryd.ntmps26 Tryd.results26 (by simp) ?_
  refine T_sr ?_
  refine S_as rfl rfl rfl ?_
  refine S_nx ?_
  refine T_sr ?_
  refine S_as rfl rfl rfl ?_
  refine S_nx ?_
  refine T_sr ?_
  refine S_mv rfl rfl rfl ?_
  refine S_callV rfl rfl (bod rfl) (fun w hs => lb _ (by first | exact hs.rowRd 0 rfl | exact hs.rowRd 1 rfl | exact hs.rowRd 2 rfl | exact hs.rowRd 3 rfl | exact hs.rowRd 4 rfl | exact hs.rowRd 5 rfl | exact hs.rowRd 6 rfl | exact hs.rowRd 7 rfl | exact hs.rowRd 8 rfl | exact hs.rowRd 9 rfl | exact hs.rowRd 10 rfl | exact hs.rowRd 11 rfl | exact hs.rowRd 12 rfl | exact hs.rowRd 13 rfl | exact Rd.st (by assumption) hs)) rfl rfl ?_
  refine S_mv rfl rfl rfl ?_
  refine S_val rfl rfl (Y_extract rfl rfl) ?_
  refine S_val rfl rfl (Y_extract rfl rfl) ?_
  refine S_as rfl rfl rfl ?_
  refine S_as rfl rfl rfl ?_
  refine S_nx ?_
  refine T_sr ?_
  refine S_mv rfl rfl rfl ?_
  refine S_callV rfl rfl (bod rfl) (fun w hs => le _ (by first | exact hs.rowRd 0 rfl | exact hs.rowRd 1 rfl | exact hs.rowRd 2 rfl | exact hs.rowRd 3 rfl | exact hs.rowRd 4 rfl | exact hs.rowRd 5 rfl | exact hs.rowRd 6 rfl | exact hs.rowRd 7 rfl | exact hs.rowRd 8 rfl | exact hs.rowRd 9 rfl | exact hs.rowRd 10 rfl | exact hs.rowRd 11 rfl | exact hs.rowRd 12 rfl | exact hs.rowRd 13 rfl | exact Rd.st (by assumption) hs)) rfl rfl ?_
  refine S_mv rfl rfl rfl ?_
  refine S_val rfl rfl (Y_extract rfl rfl) ?_
  refine S_val rfl rfl (Y_extract rfl rfl) ?_
  refine S_as rfl rfl rfl ?_
  refine S_as rfl rfl rfl ?_
  refine S_nx ?_
  refine T_sr ?_
  refine S_mv rfl rfl rfl ?_
  refine S_callV rfl rfl (bod rfl) (fun w hs => lm _ (by first | exact hs.rowRd 0 rfl | exact hs.rowRd 1 rfl | exact hs.rowRd 2 rfl | exact hs.rowRd 3 rfl | exact hs.rowRd 4 rfl | exact hs.rowRd 5 rfl | exact hs.rowRd 6 rfl | exact hs.rowRd 7 rfl | exact hs.rowRd 8 rfl | exact hs.rowRd 9 rfl | exact hs.rowRd 10 rfl | exact hs.rowRd 11 rfl | exact hs.rowRd 12 rfl | exact hs.rowRd 13 rfl | exact Rd.st (by assumption) hs)) rfl rfl ?_
  refine S_mv rfl rfl rfl ?_
  refine S_val rfl rfl (Y_extract rfl rfl) ?_
  refine S_val rfl rfl (Y_extract rfl rfl) ?_
  refine S_as rfl rfl rfl ?_
  refine S_as rfl rfl rfl ?_
  refine S_nx ?_
  refine T_seq ?_
  refine T_cutK (α := Unit) (fun _ => True) (fun _ => [(0, v), (3, .int .u64 18446744073709551615), (4, .int .u64 b), (5, .bool true), (6, .int .u64 e), (7, .bool true), (8, .int .u64 m), (9, .bool true)]) (fun _ => []) ?_ ?_
  · by_cases h1 : b = 0
    · have h2 : ¬ m = 0 := fun h => hne ⟨h1, h⟩
      refine T_sr ?_
      refine S_mv rfl rfl rfl ?_
      refine S_mv rfl rfl rfl ?_
      refine S_mv rfl rfl rfl ?_
      refine S_val rfl rfl (Y_pick_t rfl rfl) ?_
      refine S_mv rfl rfl rfl ?_
      refine S_mv rfl rfl rfl ?_
      refine S_val rfl rfl (Y_eql_t rfl rfl (by omega)) ?_
      refine S_val rfl rfl (Y_pick_t rfl rfl) ?_
      refine S_mv rfl rfl rfl ?_
      refine S_mv rfl rfl rfl ?_
      refine S_val rfl rfl (Y_eql_f rfl rfl (by omega)) ?_
      refine S_val rfl rfl (Y_pick_t rfl rfl) ?_
      refine S_nx ?_
      refine T_cond_false rfl ?_
      refine T_skip ?_
      refine X_loop ?_
      exact ⟨(), trivial, (by repeat (first | exact Env.sub_nil _ | (apply Env.sub_cons; rfl))), Emb.nil _⟩
    · refine T_sr ?_
      refine S_mv rfl rfl rfl ?_
      refine S_mv rfl rfl rfl ?_
      refine S_mv rfl rfl rfl ?_
      refine S_val rfl rfl (Y_pick_t rfl rfl) ?_
      refine S_mv rfl rfl rfl ?_
      refine S_mv rfl rfl rfl ?_
      refine S_val rfl rfl (Y_eql_f rfl rfl (by omega)) ?_
      refine S_val rfl rfl (Y_pick_t rfl rfl) ?_
      refine S_mv rfl rfl rfl ?_
      refine S_skip rfl rfl ?_
      refine S_skip rfl rfl ?_
      refine S_val rfl rfl (Y_pick_f rfl rfl) ?_
      refine S_nx ?_
      refine T_cond_false rfl ?_
      refine T_skip ?_
      refine X_loop ?_
      exact ⟨(), trivial, (by repeat (first | exact Env.sub_nil _ | (apply Env.sub_cons; rfl))), Emb.nil _⟩
  · rintro ⟨⟩ _
    clear hne lb le lm
    by_cases h40 : b < 1099511627776
    · have pt2 := pt (96 + b) (by omega)
      have e2 : bel (min e 32) (qN n x (96 + b + min e 32)) = bel (min e 32) hd := by rw [hhd, bel_mod]
      rw [e2] at pt2
      have hj := hh1
      have hj2 : min e 32 ≤ 32 := by omega
      clear pt e2 hh1
      refine T_seq ?_
      refine T_sr ?_
      refine S_mv rfl rfl rfl ?_
      refine S_val rfl rfl (Y_not rfl rfl) ?_
      refine S_mv rfl rfl rfl ?_
      refine S_mv rfl rfl rfl ?_
      refine S_val rfl rfl (Y_not rfl rfl) ?_
      refine S_val rfl rfl (Y_pick_f rfl rfl) ?_
      refine S_mv rfl rfl rfl ?_
      refine S_mv rfl rfl rfl ?_
      refine S_val rfl rfl (Y_not rfl rfl) ?_
      refine S_val rfl rfl (Y_pick_f rfl rfl) ?_
      refine S_nx ?_
      refine T_cond_false rfl ?_
      refine T_skip ?_
      refine X_seq ?_
      refine T_sr ?_
      refine S_sliceR (und rfl) (siz rfl) (zer rfl) rfl rfl rfl rfl fun _ => ?_
      refine S_as rfl rfl rfl ?_
      refine S_nx ?_
      refine T_seq ?_
      refine T_sr ?_
      refine S_mv rfl rfl rfl ?_
      refine S_val rfl rfl (Y_lss_t rfl rfl (by omega)) ?_
      refine S_nx ?_
      refine T_cond_true rfl ?_
      refine T_region ?_
      refine S_mv rfl rfl rfl ?_
      refine S_mv rfl rfl rfl ?_
      refine S_val rfl rfl (Y_conv (und rfl) (und rfl) rfl (wi64 (by omega) (by omega))) ?_
      refine S_val rfl rfl (Y_addN rfl rfl (nat_lit' _) (nat_cast _) (by omega)) ?_
      refine S_mv rfl rfl rfl ?_
      refine S_val rfl rfl (Y_min rfl rfl (nat_cast _) (nat_lit' _)) ?_
      refine S_val rfl rfl (Y_conv (und rfl) (und rfl) rfl (wi64 (by omega) (by omega))) ?_
      refine S_callR _ rfl rfl (bod rfl) (fun w hs => pt2 _ (by first | exact hs.rowRd 0 rfl | exact hs.rowRd 1 rfl | exact hs.rowRd 2 rfl | exact hs.rowRd 3 rfl | exact hs.rowRd 4 rfl | exact hs.rowRd 5 rfl | exact hs.rowRd 6 rfl | exact hs.rowRd 7 rfl | exact hs.rowRd 8 rfl | exact hs.rowRd 9 rfl | exact hs.rowRd 10 rfl | exact hs.rowRd 11 rfl | exact hs.rowRd 12 rfl | exact hs.rowRd 13 rfl | exact Rd.st (by assumption) hs)) rfl rfl fun _ => ?_
      refine S_as rfl rfl rfl ?_
      refine S_nx ?_
      refine T_sr ?_
      refine S_mv rfl rfl rfl ?_
      rename_i vh
      have tp := fun w h => rtop_any (min e 32) hd hj hj2 vh w h
      have hb256 := bitLen256 hh2
      have hc0 := cnt0_lt hh2 he
      have hcn := cntN_lt hh2 he
      have hcd : cntN hd e = if cnt0 hd e = 0 then 1 else cnt0 hd e := rfl
      have hc0d : cnt0 hd e = bitLen hd - 1 + (if 32 < e then 8 * (e - 32) else 0) := rfl
      have hw := wN_lt hb hm
      have hwd : wN b m = max b m / 8 + (if max b m % 8 = 0 then 0 else 1) := rfl
      clear hf hh2 hhd
      generalize cntN hd e = c at *
      generalize cnt0 hd e = c0 at *
      generalize wN b m = w0 at *
      generalize bitLen hd = bl at *
      refine S_callV rfl rfl (bod rfl) (fun w hs => tp _ (by first | exact hs.rowRd 0 rfl | exact hs.rowRd 1 rfl | exact hs.rowRd 2 rfl | exact hs.rowRd 3 rfl | exact hs.rowRd 4 rfl | exact hs.rowRd 5 rfl | exact hs.rowRd 6 rfl | exact hs.rowRd 7 rfl | exact hs.rowRd 8 rfl | exact hs.rowRd 9 rfl | exact hs.rowRd 10 rfl | exact hs.rowRd 11 rfl | exact hs.rowRd 12 rfl | exact hs.rowRd 13 rfl | exact Rd.st (by assumption) hs)) rfl rfl ?_
      refine S_as rfl rfl rfl ?_
      refine S_nx ?_
      refine T_sr ?_
      refine S_mv rfl rfl rfl ?_
      refine S_mv rfl rfl rfl ?_
      refine S_val rfl rfl (Y_max rfl rfl (nat_cast _) (nat_cast _)) ?_
      refine S_val rfl rfl (Y_quoN rfl rfl (nat_cast _) (nat_lit' _) (Nat.succ_ne_zero _) (by first | with_reducible exact xi64 (by omega) | with_reducible exact x64 (by omega) | with_reducible exact x8 (by omega) | with_reducible exact x32 (by omega))) ?_
      refine S_as rfl rfl rfl ?_
      refine S_nx ?_
      refine T_seq ?_
      refine T_sr ?_
      refine S_mv rfl rfl rfl ?_
      refine S_mv rfl rfl rfl ?_
      refine S_val rfl rfl (Y_max rfl rfl (nat_cast _) (nat_cast _)) ?_
      refine S_val rfl rfl (Y_remN rfl rfl (nat_cast _) (nat_lit' _) (Nat.succ_ne_zero _)) ?_
      refine S_val rfl rfl (Y_neq rfl rfl) ?_
      refine S_nx ?_
      refine T_cutK (α := Unit) (fun _ => True) (fun _ => [(3, .int .u64 18446744073709551615), (6, .int .u64 e), (11, .int .u64 ((bl - 1 : Nat) : Int)), (12, .int .u64 w0)]) (fun _ => []) ?_ ?_
      · clear hg hc0d hcd hcn hc0 tp
        refine T_if rfl (fun h => ?_) (fun h => ?_)
        · rw [if_neg (by omega)] at hwd
          have hm2 : max b m / 8 + 1 < 18446744073709551616 := by omega
          rw [hwd]
          refine T_region ?_
          refine S_mv rfl rfl rfl ?_
          refine S_val rfl rfl (Y_addU rfl rfl (nat_cast _) (nat_lit' _) rfl (by simp only [IntKind.bits]; assumption)) ?_
          refine S_as rfl rfl rfl ?_
          refine S_nil ?_
          refine X_loop ?_
          exact ⟨(), trivial, (by repeat (first | exact Env.sub_nil _ | (apply Env.sub_cons; rfl))), Emb.nil _⟩
        · rw [if_pos (by omega), Nat.add_zero] at hwd
          rw [hwd]
          refine T_skip ?_
          refine X_loop ?_
          exact ⟨(), trivial, (by repeat (first | exact Env.sub_nil _ | (apply Env.sub_cons; rfl))), Emb.nil _⟩
      · rintro ⟨⟩ _
        clear hwd
        have dg := rdigits_any (bl - 1) (by omega)
        refine T_sr ?_
        refine S_mv rfl rfl rfl ?_
        refine S_call _ rfl rfl (bod rfl) (fun w hs => dg _) rfl rfl ?_
        rintro vc _ ⟨jc, hjc, hjc8, rfl⟩
        refine S_as rfl rfl rfl ?_
        refine S_nx ?_
        refine T_seq ?_
        refine T_sr ?_
        refine S_mv rfl rfl rfl ?_
        refine S_val rfl rfl (Y_gtr rfl rfl) ?_
        refine S_nx ?_
        refine T_cutK (α := Nat × Value) (fun a => c0 < 256 ^ a.1 ∧ a.1 ≤ 20) (fun a => [(3, .int .u64 18446744073709551615), (12, .int .u64 w0), (13, a.2)]) (fun a => [row .i64 (dl 256 a.1 c0) a.2]) ?_ ?_
        · clear hg hcd hcn
          refine T_if rfl (fun h => ?_) (fun h => ?_)
          · have h32 : 32 < e := by omega
            rw [if_pos h32] at hc0d
            have d1 := rdigits_any (e - 32) (by omega)
            have d8 := rdigits_any 8 (by omega)
            refine T_region ?_
            refine S_mv rfl rfl rfl ?_
            refine S_mv rfl rfl rfl ?_
            refine S_val rfl rfl (Y_subU rfl rfl (nat_cast _) (nat_lit' _) rfl (by omega) (by simp only [IntKind.bits]; assumption)) ?_
            refine S_call _ rfl rfl (bod rfl) (fun w hs => d1 _) rfl rfl ?_
            rintro v1 _ ⟨j1, hj1, hj18, rfl⟩
            skip
            refine S_call _ rfl rfl (bod rfl) (fun w hs => d8 _) rfl rfl ?_
            rintro v8 _ ⟨j8, hj8, hj88, rfl⟩
            skip
            refine S_callR _ rfl rfl (bod rfl) (fun w hs => ntimes_any (e - 32) 8 j1 j8 hj1 hj8 (by omega) (by omega) v1 v8 _ (by first | exact hs.rowRd 0 rfl | exact hs.rowRd 1 rfl | exact hs.rowRd 2 rfl | exact hs.rowRd 3 rfl | exact hs.rowRd 4 rfl | exact hs.rowRd 5 rfl | exact hs.rowRd 6 rfl | exact hs.rowRd 7 rfl | exact hs.rowRd 8 rfl | exact hs.rowRd 9 rfl | exact hs.rowRd 10 rfl | exact hs.rowRd 11 rfl | exact hs.rowRd 12 rfl | exact hs.rowRd 13 rfl | exact Rd.st (by assumption) hs) (by first | exact hs.rowRd 0 rfl | exact hs.rowRd 1 rfl | exact hs.rowRd 2 rfl | exact hs.rowRd 3 rfl | exact hs.rowRd 4 rfl | exact hs.rowRd 5 rfl | exact hs.rowRd 6 rfl | exact hs.rowRd 7 rfl | exact hs.rowRd 8 rfl | exact hs.rowRd 9 rfl | exact hs.rowRd 10 rfl | exact hs.rowRd 11 rfl | exact hs.rowRd 12 rfl | exact hs.rowRd 13 rfl | exact Rd.st (by assumption) hs)) rfl rfl fun _ => ?_
            have hml : (e - 32) * 8 < 256 ^ (j1 + j8 + 1) := by
              rw [Nat.pow_succ, Nat.pow_add]
              have := Nat.mul_lt_mul'' hj1 hj8
              omega
            have pl := fun v1 w h h' => nplus_any (bl - 1) ((e - 32) * 8) jc (j1 + j8 + 1) hjc hml (by omega) (by omega) vc v1 w h h'
            rw [show bl - 1 + (e - 32) * 8 = c0 by omega] at pl
            have hlt : c0 < 256 ^ (max jc (j1 + j8 + 1) + 1) := by
              have e1 : 256 ^ jc ≤ 256 ^ max jc (j1 + j8 + 1) := Nat.pow_le_pow_right (by omega) (by omega)
              have e2 : 256 ^ (j1 + j8 + 1) ≤ 256 ^ max jc (j1 + j8 + 1) := Nat.pow_le_pow_right (by omega) (by omega)
              rw [Nat.pow_succ]
              omega
            generalize (e - 32) * 8 = z at *
            skip
            refine S_callR _ rfl rfl (bod rfl) (fun w hs => pl _ _ (by first | exact hs.rowRd 0 rfl | exact hs.rowRd 1 rfl | exact hs.rowRd 2 rfl | exact hs.rowRd 3 rfl | exact hs.rowRd 4 rfl | exact hs.rowRd 5 rfl | exact hs.rowRd 6 rfl | exact hs.rowRd 7 rfl | exact hs.rowRd 8 rfl | exact hs.rowRd 9 rfl | exact hs.rowRd 10 rfl | exact hs.rowRd 11 rfl | exact hs.rowRd 12 rfl | exact hs.rowRd 13 rfl | exact Rd.st (by assumption) hs) (by first | exact hs.rowRd 0 rfl | exact hs.rowRd 1 rfl | exact hs.rowRd 2 rfl | exact hs.rowRd 3 rfl | exact hs.rowRd 4 rfl | exact hs.rowRd 5 rfl | exact hs.rowRd 6 rfl | exact hs.rowRd 7 rfl | exact hs.rowRd 8 rfl | exact hs.rowRd 9 rfl | exact hs.rowRd 10 rfl | exact hs.rowRd 11 rfl | exact hs.rowRd 12 rfl | exact hs.rowRd 13 rfl | exact Rd.st (by assumption) hs)) rfl rfl fun _ => ?_
            refine S_as rfl rfl rfl ?_
            refine S_nil ?_
            refine X_loop ?_
            exact ⟨(max jc (j1 + j8 + 1) + 1, _), ⟨hlt, by dsimp only; omega⟩, (by repeat (first | exact Env.sub_nil _ | (apply Env.sub_cons; rfl))), Emb.one 4 rfl⟩
          · rw [if_neg (by omega), Nat.add_zero] at hc0d
            rw [← hc0d] at hjc ⊢
            refine T_skip ?_
            refine X_loop ?_
            exact ⟨(jc, vc), ⟨hjc, by dsimp only; omega⟩, (by repeat (first | exact Env.sub_nil _ | (apply Env.sub_cons; rfl))), Emb.one 0 rfl⟩
        · clear hjc hjc8 dg hc0d
          rintro ⟨jc, vc⟩ ⟨hjc, hjc8⟩
          dsimp only at hjc hjc8 ⊢
          have zr := fun w h => nzero_any c0 jc hjc (by omega) vc w h
          refine T_seq ?_
          refine T_sr ?_
          refine S_mv rfl rfl rfl ?_
          refine S_callV rfl rfl (bod rfl) (fun w hs => zr _ (by first | exact hs.rowRd 0 rfl | exact hs.rowRd 1 rfl | exact hs.rowRd 2 rfl | exact hs.rowRd 3 rfl | exact hs.rowRd 4 rfl | exact hs.rowRd 5 rfl | exact hs.rowRd 6 rfl | exact hs.rowRd 7 rfl | exact hs.rowRd 8 rfl | exact hs.rowRd 9 rfl | exact hs.rowRd 10 rfl | exact hs.rowRd 11 rfl | exact hs.rowRd 12 rfl | exact hs.rowRd 13 rfl | exact Rd.st (by assumption) hs)) rfl rfl ?_
          refine S_nx ?_
          refine T_cutK (α := Nat × Value) (fun a => c < 256 ^ a.1 ∧ a.1 ≤ 20) (fun a => [(3, .int .u64 18446744073709551615), (12, .int .u64 w0), (13, a.2)]) (fun a => [row .i64 (dl 256 a.1 c) a.2]) ?_ ?_
          · clear hg
            refine T_if rfl (fun h => ?_) (fun h => ?_)
            · rw [if_pos h] at hcd
              subst hcd
              have d1 := rdigits_any 1 (by omega)
              refine T_region ?_
              refine S_call _ rfl rfl (bod rfl) (fun w hs => d1 _) rfl rfl ?_
              rintro v1 _ ⟨j1, hj1, hj18, rfl⟩
              refine S_as rfl rfl rfl ?_
              refine S_nil ?_
              refine X_loop ?_
              exact ⟨(j1, v1), ⟨hj1, by dsimp only; omega⟩, (by repeat (first | exact Env.sub_nil _ | (apply Env.sub_cons; rfl))), Emb.one 1 rfl⟩
            · rw [if_neg h] at hcd
              subst hcd
              refine T_skip ?_
              refine X_loop ?_
              exact ⟨(jc, vc), ⟨hjc, by dsimp only; omega⟩, (by repeat (first | exact Env.sub_nil _ | (apply Env.sub_cons; rfl))), Emb.one 0 rfl⟩
          · clear hjc hjc8 zr hcd
            rintro ⟨jc, vc⟩ ⟨hjc, hjc8⟩
            dsimp only at hjc hjc8 ⊢
            have dw := rdigits_any w0 (by omega)
            have d3 := rdigits_any 3 (by omega)
            obtain ⟨nn, hnn⟩ : ∃ nn : Nat, nn = 18446744073709551615 := ⟨_, rfl⟩
            have dn := rdigits_any nn (by omega)
            rw [show (nn : Int) = 18446744073709551615 by omega] at dn
            refine T_sr ?_
            refine S_mv rfl rfl rfl ?_
            refine S_call _ rfl rfl (bod rfl) (fun w hs => dw _) rfl rfl ?_
            rintro va _ ⟨ja, hja, hja8, rfl⟩
            refine S_mv rfl rfl rfl ?_
            refine S_call _ rfl rfl (bod rfl) (fun w hs => dw _) rfl rfl ?_
            rintro vb _ ⟨jb, hjb, hjb8, rfl⟩
            skip
            refine S_callR _ rfl rfl (bod rfl) (fun w hs => ntimes_any w0 w0 ja jb hja hjb (by omega) (by omega) va vb _ (by first | exact hs.rowRd 0 rfl | exact hs.rowRd 1 rfl | exact hs.rowRd 2 rfl | exact hs.rowRd 3 rfl | exact hs.rowRd 4 rfl | exact hs.rowRd 5 rfl | exact hs.rowRd 6 rfl | exact hs.rowRd 7 rfl | exact hs.rowRd 8 rfl | exact hs.rowRd 9 rfl | exact hs.rowRd 10 rfl | exact hs.rowRd 11 rfl | exact hs.rowRd 12 rfl | exact hs.rowRd 13 rfl | exact Rd.st (by assumption) hs) (by first | exact hs.rowRd 0 rfl | exact hs.rowRd 1 rfl | exact hs.rowRd 2 rfl | exact hs.rowRd 3 rfl | exact hs.rowRd 4 rfl | exact hs.rowRd 5 rfl | exact hs.rowRd 6 rfl | exact hs.rowRd 7 rfl | exact hs.rowRd 8 rfl | exact hs.rowRd 9 rfl | exact hs.rowRd 10 rfl | exact hs.rowRd 11 rfl | exact hs.rowRd 12 rfl | exact hs.rowRd 13 rfl | exact Rd.st (by assumption) hs)) rfl rfl fun _ => ?_
            have hww : w0 * w0 < 256 ^ (ja + jb + 1) := by
              rw [Nat.pow_succ, Nat.pow_add]
              have := Nat.mul_lt_mul'' hja hjb
              omega
            generalize w0 * w0 = ww at *
            have tm := fun v1 w h h' => ntimes_any ww c (ja + jb + 1) jc hww hjc (by omega) (by omega) v1 vc w h h'
            have hp : ww * c < 256 ^ (ja + jb + 1 + jc + 1) := by
              rw [Nat.pow_succ _ (ja + jb + 1 + jc), Nat.pow_add _ (ja + jb + 1)]
              have := Nat.mul_lt_mul'' hww hjc
              omega
            generalize ww * c = p at *
            generalize hlp : ja + jb + 1 + jc + 1 = lp at *
            have hlp2 : lp ≤ 60 := by omega
            clear hlp
            refine S_mv rfl rfl rfl ?_
            refine S_callR _ rfl rfl (bod rfl) (fun w hs => tm _ _ (by first | exact hs.rowRd 0 rfl | exact hs.rowRd 1 rfl | exact hs.rowRd 2 rfl | exact hs.rowRd 3 rfl | exact hs.rowRd 4 rfl | exact hs.rowRd 5 rfl | exact hs.rowRd 6 rfl | exact hs.rowRd 7 rfl | exact hs.rowRd 8 rfl | exact hs.rowRd 9 rfl | exact hs.rowRd 10 rfl | exact hs.rowRd 11 rfl | exact hs.rowRd 12 rfl | exact hs.rowRd 13 rfl | exact Rd.st (by assumption) hs) (by first | exact hs.rowRd 0 rfl | exact hs.rowRd 1 rfl | exact hs.rowRd 2 rfl | exact hs.rowRd 3 rfl | exact hs.rowRd 4 rfl | exact hs.rowRd 5 rfl | exact hs.rowRd 6 rfl | exact hs.rowRd 7 rfl | exact hs.rowRd 8 rfl | exact hs.rowRd 9 rfl | exact hs.rowRd 10 rfl | exact hs.rowRd 11 rfl | exact hs.rowRd 12 rfl | exact hs.rowRd 13 rfl | exact Rd.st (by assumption) hs)) rfl rfl fun _ => ?_
            skip
            refine S_call _ rfl rfl (bod rfl) (fun w hs => d3 _) rfl rfl ?_
            rintro v3 _ ⟨j3, hj3, hj38, rfl⟩
            have dv := fun v1 w h h' => ndiv_any p 3 lp j3 hp hj3 (by omega) (by omega) v1 v3 w h h'
            have hq2 : p / 3 < 256 ^ lp := Nat.lt_of_le_of_lt (Nat.div_le_self _ _) hp
            skip
            refine S_call _ rfl rfl (bod rfl) (fun w hs => dv _ _ (by first | exact hs.rowRd 0 rfl | exact hs.rowRd 1 rfl | exact hs.rowRd 2 rfl | exact hs.rowRd 3 rfl | exact hs.rowRd 4 rfl | exact hs.rowRd 5 rfl | exact hs.rowRd 6 rfl | exact hs.rowRd 7 rfl | exact hs.rowRd 8 rfl | exact hs.rowRd 9 rfl | exact hs.rowRd 10 rfl | exact hs.rowRd 11 rfl | exact hs.rowRd 12 rfl | exact hs.rowRd 13 rfl | exact Rd.st (by assumption) hs) (by first | exact hs.rowRd 0 rfl | exact hs.rowRd 1 rfl | exact hs.rowRd 2 rfl | exact hs.rowRd 3 rfl | exact hs.rowRd 4 rfl | exact hs.rowRd 5 rfl | exact hs.rowRd 6 rfl | exact hs.rowRd 7 rfl | exact hs.rowRd 8 rfl | exact hs.rowRd 9 rfl | exact hs.rowRd 10 rfl | exact hs.rowRd 11 rfl | exact hs.rowRd 12 rfl | exact hs.rowRd 13 rfl | exact Rd.st (by assumption) hs)) rfl rfl ?_
            rintro _ _ ⟨jr, rr, vq, vr, _, _, _, rfl, rfl⟩
            refine S_mv rfl rfl rfl ?_
            refine S_val rfl rfl (Y_extract rfl rfl) ?_
            refine S_val rfl rfl (Y_extract rfl rfl) ?_
            refine S_as rfl rfl rfl ?_
            refine S_as rfl rfl rfl ?_
            refine S_nx ?_
            refine T_seq ?_
            refine T_sr ?_
            refine S_mv rfl rfl rfl ?_
            refine S_mv rfl rfl rfl ?_
            generalize p / 3 = q at *
            refine S_call _ rfl rfl (bod rfl) (fun w hs => dn _) rfl rfl ?_
            rintro vn _ ⟨jn, hjn, hjn8, rfl⟩
            have lss := fun w h h' => nless_any q nn lp jn hq2 hjn (by omega) (by omega) vq vn w h h'
            clear dv tm dw d3 dn hww hja hjb hj3 hjn hp hjc
            by_cases hq : q < nn
            · rw [decide_eq_true hq] at lss
              have hg2 : ((max q 200 : Nat) : Int) = (g : Int) := by omega
              clear hg
              skip
              refine S_callV rfl rfl (bod rfl) (fun w hs => lss _ (by first | exact hs.rowRd 0 rfl | exact hs.rowRd 1 rfl | exact hs.rowRd 2 rfl | exact hs.rowRd 3 rfl | exact hs.rowRd 4 rfl | exact hs.rowRd 5 rfl | exact hs.rowRd 6 rfl | exact hs.rowRd 7 rfl | exact hs.rowRd 8 rfl | exact hs.rowRd 9 rfl | exact hs.rowRd 10 rfl | exact hs.rowRd 11 rfl | exact hs.rowRd 12 rfl | exact hs.rowRd 13 rfl | exact Rd.st (by assumption) hs) (by first | exact hs.rowRd 0 rfl | exact hs.rowRd 1 rfl | exact hs.rowRd 2 rfl | exact hs.rowRd 3 rfl | exact hs.rowRd 4 rfl | exact hs.rowRd 5 rfl | exact hs.rowRd 6 rfl | exact hs.rowRd 7 rfl | exact hs.rowRd 8 rfl | exact hs.rowRd 9 rfl | exact hs.rowRd 10 rfl | exact hs.rowRd 11 rfl | exact hs.rowRd 12 rfl | exact hs.rowRd 13 rfl | exact Rd.st (by assumption) hs)) rfl rfl ?_
              refine S_val rfl rfl (Y_not rfl rfl) ?_
              refine S_nx ?_
              refine T_cond_false rfl ?_
              refine T_skip ?_
              refine X_seq ?_
              refine T_sr ?_
              refine S_as rfl rfl rfl ?_
              refine S_nx ?_
              refine T_seq ?_
              refine T_sr ?_
              refine S_mv rfl rfl rfl ?_
              refine S_val rfl rfl (Y_lenV rfl (und rfl) rfl (fun _ hs => hs.rowRd 6 rfl) (dl_length _ _ _)) ?_
              refine S_val rfl rfl (Y_sub rfl rfl (wi64 (by omega) (by omega))) ?_
              refine S_as rfl rfl rfl ?_
              refine S_nx ?_
              refine T_block ?_
              refine T_loopE (α := Nat) (fun j => j ≤ lp)
                (fun j => [(14, vq), (16, .int .u64 ((q / 256 ^ j : Nat) : Int)), (17, .int .i64 ((j : Int) - 1))])
                (fun j => [row .i64 (dl 256 lp q) vq])
                (fun j => j) lp (Nat.le_refl _) (by rw [Nat.div_eq_of_lt hq2]; exact (by repeat (first | exact Env.sub_nil _ | (apply Env.sub_cons; rfl)))) (Emb.one 6 rfl) ?_
              intro j hj
              have hle : q / 256 ^ j ≤ q := Nat.div_le_self _ _
              by_cases h0 : j = 0
              · subst h0
                have hqq : q / 256 ^ 0 = q := by rw [Nat.pow_zero, Nat.div_one]
                rw [hqq]
                refine T_seq ?_
                refine T_sr ?_
                refine S_mv rfl rfl rfl ?_
                refine S_val rfl rfl (Y_geq_f rfl rfl (by decide)) ?_
                refine S_nx ?_
                refine T_cond_false rfl ?_
                refine T_exit ?_
                refine X_seq_exit ?_
                refine X_loop_exit ?_
                refine X_blk_hit rfl ?_
                refine X_seq ?_
                refine T_sr ?_
                refine S_mv rfl rfl rfl ?_
                refine S_val rfl rfl (Y_max rfl rfl (nat_cast _) (nat_lit' _)) ?_
                refine S_as rfl rfl rfl ?_
                refine S_nx ?_
                refine T_ret ?_
                ((first | refine X_fin_ret ?_ | refine X_fin ?_); exact ⟨[_], [], .cons (.tmp rfl) .nil, Emb.nil _, by show Value.int .u64 ((max q 200 : Nat) : Int) = _; rw [hg2], rfl⟩)
              · obtain ⟨i, rfl⟩ : ∃ i, j = i + 1 := ⟨j - 1, by omega⟩
                rw [show (((i + 1 : Nat) : Int) - 1) = (i : Int) by omega]
                have hd := dig256_lt q i
                have hq1 : q / 256 ^ i = q / 256 ^ (i + 1) * 256 + q / 256 ^ i % 256 := by
                  rw [Nat.pow_succ, ← Nat.div_div_eq_div_mul]
                  omega
                have hle2 : q / 256 ^ i ≤ q := Nat.div_le_self _ _
                have hlt : q / 256 ^ (i + 1) * 256 + q / 256 ^ i % 256 < 18446744073709551616 := by omega
                have hm : q / 256 ^ (i + 1) * 256 < 18446744073709551616 := by omega
                clear hle hle2
                refine T_seq ?_
                refine T_sr ?_
                refine S_mv rfl rfl rfl ?_
                refine S_val rfl rfl (Y_geq_t rfl rfl (by omega)) ?_
                refine S_nx ?_
                refine T_cond_true rfl ?_
                refine T_skip ?_
                refine X_seq ?_
                refine T_seq ?_
                refine T_block ?_
                refine T_region ?_
                refine S_mv rfl rfl rfl ?_
                refine S_val rfl rfl (Y_mulU rfl rfl (nat_cast _) (nat_lit' _) rfl (by simp only [IntKind.bits]; assumption)) ?_
                refine S_mv rfl rfl rfl ?_
                refine S_mv rfl rfl rfl ?_
                refine S_val rfl rfl (Y_ixV (und rfl) (siz rfl) rfl rfl (fun _ hs => hs.rowRd 0 rfl) (nat_cast _) (dl_lt (by assumption))) ?_
                refine S_val rfl rfl (Y_loadV (und rfl) rfl rfl (fun _ hs => hs.rowRd 0 rfl) (dl_get (by assumption))) ?_
                refine S_val rfl rfl (Y_conv (und rfl) (und rfl) rfl (wu64 (by omega) (by omega))) ?_
                refine S_val rfl rfl (Y_addU rfl rfl (nat_cast _) (nat_cast _) rfl (by simp only [IntKind.bits]; assumption)) ?_
                refine S_as rfl rfl rfl ?_
                refine S_nil ?_
                refine X_blk ?_
                refine X_seq ?_
                refine T_region ?_
                refine S_mv rfl rfl rfl ?_
                refine S_val rfl rfl (Y_sub rfl rfl (wi64 (by omega) (by omega))) ?_
                refine S_as rfl rfl rfl ?_
                refine S_nil ?_
                rw [← hq1]
                refine X_loop ?_
                exact ⟨i, by omega, by omega, (by repeat (first | exact Env.sub_nil _ | (apply Env.sub_cons; rfl))), Emb.refl _⟩
            · rw [decide_eq_false hq] at lss
              have hg2 : (18446744073709551615 : Int) = (g : Int) := by omega
              clear hg
              skip
              refine S_callV rfl rfl (bod rfl) (fun w hs => lss _ (by first | exact hs.rowRd 0 rfl | exact hs.rowRd 1 rfl | exact hs.rowRd 2 rfl | exact hs.rowRd 3 rfl | exact hs.rowRd 4 rfl | exact hs.rowRd 5 rfl | exact hs.rowRd 6 rfl | exact hs.rowRd 7 rfl | exact hs.rowRd 8 rfl | exact hs.rowRd 9 rfl | exact hs.rowRd 10 rfl | exact hs.rowRd 11 rfl | exact hs.rowRd 12 rfl | exact hs.rowRd 13 rfl | exact Rd.st (by assumption) hs) (by first | exact hs.rowRd 0 rfl | exact hs.rowRd 1 rfl | exact hs.rowRd 2 rfl | exact hs.rowRd 3 rfl | exact hs.rowRd 4 rfl | exact hs.rowRd 5 rfl | exact hs.rowRd 6 rfl | exact hs.rowRd 7 rfl | exact hs.rowRd 8 rfl | exact hs.rowRd 9 rfl | exact hs.rowRd 10 rfl | exact hs.rowRd 11 rfl | exact hs.rowRd 12 rfl | exact hs.rowRd 13 rfl | exact Rd.st (by assumption) hs)) rfl rfl ?_
              refine S_val rfl rfl (Y_not rfl rfl) ?_
              refine S_nx ?_
              refine T_cond_true rfl ?_
              refine T_sr ?_
              refine S_mv rfl rfl rfl ?_
              refine S_as rfl rfl rfl ?_
              refine S_nx ?_
              refine T_ret ?_
              refine X_seq_ret ?_
              ((first | refine X_fin_ret ?_ | refine X_fin ?_); exact ⟨[_], [], .cons (.tmp rfl) .nil, Emb.nil _, by show Value.int .u64 18446744073709551615 = _; rw [hg2], rfl⟩)
    · have hz : hd = 0 := hf (by omega)
      have hj : hd < 256 ^ 0 := by omega
      have hj2 : 0 ≤ 32 := by omega
      clear pt hh1
      refine T_seq ?_
      refine T_sr ?_
      refine S_mv rfl rfl rfl ?_
      refine S_val rfl rfl (Y_not rfl rfl) ?_
      refine S_mv rfl rfl rfl ?_
      refine S_mv rfl rfl rfl ?_
      refine S_val rfl rfl (Y_not rfl rfl) ?_
      refine S_val rfl rfl (Y_pick_f rfl rfl) ?_
      refine S_mv rfl rfl rfl ?_
      refine S_mv rfl rfl rfl ?_
      refine S_val rfl rfl (Y_not rfl rfl) ?_
      refine S_val rfl rfl (Y_pick_f rfl rfl) ?_
      refine S_nx ?_
      refine T_cond_false rfl ?_
      refine T_skip ?_
      refine X_seq ?_
      refine T_sr ?_
      refine S_sliceR (und rfl) (siz rfl) (zer rfl) rfl rfl rfl rfl fun _ => ?_
      refine S_as rfl rfl rfl ?_
      refine S_nx ?_
      refine T_seq ?_
      refine T_sr ?_
      refine S_mv rfl rfl rfl ?_
      refine S_val rfl rfl (Y_lss_f rfl rfl (by omega)) ?_
      refine S_nx ?_
      refine T_cond_false rfl ?_
      refine T_skip ?_
      refine X_seq ?_
      refine T_sr ?_
      refine S_mv rfl rfl rfl ?_
      rename_i vh
      have tp := fun w h => rtop_any (0) hd hj hj2 vh w h
      have hb256 := bitLen256 hh2
      have hc0 := cnt0_lt hh2 he
      have hcn := cntN_lt hh2 he
      have hcd : cntN hd e = if cnt0 hd e = 0 then 1 else cnt0 hd e := rfl
      have hc0d : cnt0 hd e = bitLen hd - 1 + (if 32 < e then 8 * (e - 32) else 0) := rfl
      have hw := wN_lt hb hm
      have hwd : wN b m = max b m / 8 + (if max b m % 8 = 0 then 0 else 1) := rfl
      clear hf hh2 hhd
      generalize cntN hd e = c at *
      generalize cnt0 hd e = c0 at *
      generalize wN b m = w0 at *
      generalize bitLen hd = bl at *
      refine S_callV rfl rfl (bod rfl) (fun w hs => tp _ (by first | exact hs.rowRd 0 rfl | exact hs.rowRd 1 rfl | exact hs.rowRd 2 rfl | exact hs.rowRd 3 rfl | exact hs.rowRd 4 rfl | exact hs.rowRd 5 rfl | exact hs.rowRd 6 rfl | exact hs.rowRd 7 rfl | exact hs.rowRd 8 rfl | exact hs.rowRd 9 rfl | exact hs.rowRd 10 rfl | exact hs.rowRd 11 rfl | exact hs.rowRd 12 rfl | exact hs.rowRd 13 rfl | exact Rd.st (by assumption) hs)) rfl rfl ?_
      refine S_as rfl rfl rfl ?_
      refine S_nx ?_
      refine T_sr ?_
      refine S_mv rfl rfl rfl ?_
      refine S_mv rfl rfl rfl ?_
      refine S_val rfl rfl (Y_max rfl rfl (nat_cast _) (nat_cast _)) ?_
      refine S_val rfl rfl (Y_quoN rfl rfl (nat_cast _) (nat_lit' _) (Nat.succ_ne_zero _) (by first | with_reducible exact xi64 (by omega) | with_reducible exact x64 (by omega) | with_reducible exact x8 (by omega) | with_reducible exact x32 (by omega))) ?_
      refine S_as rfl rfl rfl ?_
      refine S_nx ?_
      refine T_seq ?_
      refine T_sr ?_
      refine S_mv rfl rfl rfl ?_
      refine S_mv rfl rfl rfl ?_
      refine S_val rfl rfl (Y_max rfl rfl (nat_cast _) (nat_cast _)) ?_
      refine S_val rfl rfl (Y_remN rfl rfl (nat_cast _) (nat_lit' _) (Nat.succ_ne_zero _)) ?_
      refine S_val rfl rfl (Y_neq rfl rfl) ?_
      refine S_nx ?_
      refine T_cutK (α := Unit) (fun _ => True) (fun _ => [(3, .int .u64 18446744073709551615), (6, .int .u64 e), (11, .int .u64 ((bl - 1 : Nat) : Int)), (12, .int .u64 w0)]) (fun _ => []) ?_ ?_
      · clear hg hc0d hcd hcn hc0 tp
        refine T_if rfl (fun h => ?_) (fun h => ?_)
        · rw [if_neg (by omega)] at hwd
          have hm2 : max b m / 8 + 1 < 18446744073709551616 := by omega
          rw [hwd]
          refine T_region ?_
          refine S_mv rfl rfl rfl ?_
          refine S_val rfl rfl (Y_addU rfl rfl (nat_cast _) (nat_lit' _) rfl (by simp only [IntKind.bits]; assumption)) ?_
          refine S_as rfl rfl rfl ?_
          refine S_nil ?_
          refine X_loop ?_
          exact ⟨(), trivial, (by repeat (first | exact Env.sub_nil _ | (apply Env.sub_cons; rfl))), Emb.nil _⟩
        · rw [if_pos (by omega), Nat.add_zero] at hwd
          rw [hwd]
          refine T_skip ?_
          refine X_loop ?_
          exact ⟨(), trivial, (by repeat (first | exact Env.sub_nil _ | (apply Env.sub_cons; rfl))), Emb.nil _⟩
      · rintro ⟨⟩ _
        clear hwd
        have dg := rdigits_any (bl - 1) (by omega)
        refine T_sr ?_
        refine S_mv rfl rfl rfl ?_
        refine S_call _ rfl rfl (bod rfl) (fun w hs => dg _) rfl rfl ?_
        rintro vc _ ⟨jc, hjc, hjc8, rfl⟩
        refine S_as rfl rfl rfl ?_
        refine S_nx ?_
        refine T_seq ?_
        refine T_sr ?_
        refine S_mv rfl rfl rfl ?_
        refine S_val rfl rfl (Y_gtr rfl rfl) ?_
        refine S_nx ?_
        refine T_cutK (α := Nat × Value) (fun a => c0 < 256 ^ a.1 ∧ a.1 ≤ 20) (fun a => [(3, .int .u64 18446744073709551615), (12, .int .u64 w0), (13, a.2)]) (fun a => [row .i64 (dl 256 a.1 c0) a.2]) ?_ ?_
        · clear hg hcd hcn
          refine T_if rfl (fun h => ?_) (fun h => ?_)
          · have h32 : 32 < e := by omega
            rw [if_pos h32] at hc0d
            have d1 := rdigits_any (e - 32) (by omega)
            have d8 := rdigits_any 8 (by omega)
            refine T_region ?_
            refine S_mv rfl rfl rfl ?_
            refine S_mv rfl rfl rfl ?_
            refine S_val rfl rfl (Y_subU rfl rfl (nat_cast _) (nat_lit' _) rfl (by omega) (by simp only [IntKind.bits]; assumption)) ?_
            refine S_call _ rfl rfl (bod rfl) (fun w hs => d1 _) rfl rfl ?_
            rintro v1 _ ⟨j1, hj1, hj18, rfl⟩
            skip
            refine S_call _ rfl rfl (bod rfl) (fun w hs => d8 _) rfl rfl ?_
            rintro v8 _ ⟨j8, hj8, hj88, rfl⟩
            skip
            refine S_callR _ rfl rfl (bod rfl) (fun w hs => ntimes_any (e - 32) 8 j1 j8 hj1 hj8 (by omega) (by omega) v1 v8 _ (by first | exact hs.rowRd 0 rfl | exact hs.rowRd 1 rfl | exact hs.rowRd 2 rfl | exact hs.rowRd 3 rfl | exact hs.rowRd 4 rfl | exact hs.rowRd 5 rfl | exact hs.rowRd 6 rfl | exact hs.rowRd 7 rfl | exact hs.rowRd 8 rfl | exact hs.rowRd 9 rfl | exact hs.rowRd 10 rfl | exact hs.rowRd 11 rfl | exact hs.rowRd 12 rfl | exact hs.rowRd 13 rfl | exact Rd.st (by assumption) hs) (by first | exact hs.rowRd 0 rfl | exact hs.rowRd 1 rfl | exact hs.rowRd 2 rfl | exact hs.rowRd 3 rfl | exact hs.rowRd 4 rfl | exact hs.rowRd 5 rfl | exact hs.rowRd 6 rfl | exact hs.rowRd 7 rfl | exact hs.rowRd 8 rfl | exact hs.rowRd 9 rfl | exact hs.rowRd 10 rfl | exact hs.rowRd 11 rfl | exact hs.rowRd 12 rfl | exact hs.rowRd 13 rfl | exact Rd.st (by assumption) hs)) rfl rfl fun _ => ?_
            have hml : (e - 32) * 8 < 256 ^ (j1 + j8 + 1) := by
              rw [Nat.pow_succ, Nat.pow_add]
              have := Nat.mul_lt_mul'' hj1 hj8
              omega
            have pl := fun v1 w h h' => nplus_any (bl - 1) ((e - 32) * 8) jc (j1 + j8 + 1) hjc hml (by omega) (by omega) vc v1 w h h'
            rw [show bl - 1 + (e - 32) * 8 = c0 by omega] at pl
            have hlt : c0 < 256 ^ (max jc (j1 + j8 + 1) + 1) := by
              have e1 : 256 ^ jc ≤ 256 ^ max jc (j1 + j8 + 1) := Nat.pow_le_pow_right (by omega) (by omega)
              have e2 : 256 ^ (j1 + j8 + 1) ≤ 256 ^ max jc (j1 + j8 + 1) := Nat.pow_le_pow_right (by omega) (by omega)
              rw [Nat.pow_succ]
              omega
            generalize (e - 32) * 8 = z at *
            skip
            refine S_callR _ rfl rfl (bod rfl) (fun w hs => pl _ _ (by first | exact hs.rowRd 0 rfl | exact hs.rowRd 1 rfl | exact hs.rowRd 2 rfl | exact hs.rowRd 3 rfl | exact hs.rowRd 4 rfl | exact hs.rowRd 5 rfl | exact hs.rowRd 6 rfl | exact hs.rowRd 7 rfl | exact hs.rowRd 8 rfl | exact hs.rowRd 9 rfl | exact hs.rowRd 10 rfl | exact hs.rowRd 11 rfl | exact hs.rowRd 12 rfl | exact hs.rowRd 13 rfl | exact Rd.st (by assumption) hs) (by first | exact hs.rowRd 0 rfl | exact hs.rowRd 1 rfl | exact hs.rowRd 2 rfl | exact hs.rowRd 3 rfl | exact hs.rowRd 4 rfl | exact hs.rowRd 5 rfl | exact hs.rowRd 6 rfl | exact hs.rowRd 7 rfl | exact hs.rowRd 8 rfl | exact hs.rowRd 9 rfl | exact hs.rowRd 10 rfl | exact hs.rowRd 11 rfl | exact hs.rowRd 12 rfl | exact hs.rowRd 13 rfl | exact Rd.st (by assumption) hs)) rfl rfl fun _ => ?_
            refine S_as rfl rfl rfl ?_
            refine S_nil ?_
            refine X_loop ?_
            exact ⟨(max jc (j1 + j8 + 1) + 1, _), ⟨hlt, by dsimp only; omega⟩, (by repeat (first | exact Env.sub_nil _ | (apply Env.sub_cons; rfl))), Emb.one 4 rfl⟩
          · rw [if_neg (by omega), Nat.add_zero] at hc0d
            rw [← hc0d] at hjc ⊢
            refine T_skip ?_
            refine X_loop ?_
            exact ⟨(jc, vc), ⟨hjc, by dsimp only; omega⟩, (by repeat (first | exact Env.sub_nil _ | (apply Env.sub_cons; rfl))), Emb.one 0 rfl⟩
        · clear hjc hjc8 dg hc0d
          rintro ⟨jc, vc⟩ ⟨hjc, hjc8⟩
          dsimp only at hjc hjc8 ⊢
          have zr := fun w h => nzero_any c0 jc hjc (by omega) vc w h
          refine T_seq ?_
          refine T_sr ?_
          refine S_mv rfl rfl rfl ?_
          refine S_callV rfl rfl (bod rfl) (fun w hs => zr _ (by first | exact hs.rowRd 0 rfl | exact hs.rowRd 1 rfl | exact hs.rowRd 2 rfl | exact hs.rowRd 3 rfl | exact hs.rowRd 4 rfl | exact hs.rowRd 5 rfl | exact hs.rowRd 6 rfl | exact hs.rowRd 7 rfl | exact hs.rowRd 8 rfl | exact hs.rowRd 9 rfl | exact hs.rowRd 10 rfl | exact hs.rowRd 11 rfl | exact hs.rowRd 12 rfl | exact hs.rowRd 13 rfl | exact Rd.st (by assumption) hs)) rfl rfl ?_
          refine S_nx ?_
          refine T_cutK (α := Nat × Value) (fun a => c < 256 ^ a.1 ∧ a.1 ≤ 20) (fun a => [(3, .int .u64 18446744073709551615), (12, .int .u64 w0), (13, a.2)]) (fun a => [row .i64 (dl 256 a.1 c) a.2]) ?_ ?_
          · clear hg
            refine T_if rfl (fun h => ?_) (fun h => ?_)
            · rw [if_pos h] at hcd
              subst hcd
              have d1 := rdigits_any 1 (by omega)
              refine T_region ?_
              refine S_call _ rfl rfl (bod rfl) (fun w hs => d1 _) rfl rfl ?_
              rintro v1 _ ⟨j1, hj1, hj18, rfl⟩
              refine S_as rfl rfl rfl ?_
              refine S_nil ?_
              refine X_loop ?_
              exact ⟨(j1, v1), ⟨hj1, by dsimp only; omega⟩, (by repeat (first | exact Env.sub_nil _ | (apply Env.sub_cons; rfl))), Emb.one 1 rfl⟩
            · rw [if_neg h] at hcd
              subst hcd
              refine T_skip ?_
              refine X_loop ?_
              exact ⟨(jc, vc), ⟨hjc, by dsimp only; omega⟩, (by repeat (first | exact Env.sub_nil _ | (apply Env.sub_cons; rfl))), Emb.one 0 rfl⟩
          · clear hjc hjc8 zr hcd
            rintro ⟨jc, vc⟩ ⟨hjc, hjc8⟩
            dsimp only at hjc hjc8 ⊢
            have dw := rdigits_any w0 (by omega)
            have d3 := rdigits_any 3 (by omega)
            obtain ⟨nn, hnn⟩ : ∃ nn : Nat, nn = 18446744073709551615 := ⟨_, rfl⟩
            have dn := rdigits_any nn (by omega)
            rw [show (nn : Int) = 18446744073709551615 by omega] at dn
            refine T_sr ?_
            refine S_mv rfl rfl rfl ?_
            refine S_call _ rfl rfl (bod rfl) (fun w hs => dw _) rfl rfl ?_
            rintro va _ ⟨ja, hja, hja8, rfl⟩
            refine S_mv rfl rfl rfl ?_
            refine S_call _ rfl rfl (bod rfl) (fun w hs => dw _) rfl rfl ?_
            rintro vb _ ⟨jb, hjb, hjb8, rfl⟩
            skip
            refine S_callR _ rfl rfl (bod rfl) (fun w hs => ntimes_any w0 w0 ja jb hja hjb (by omega) (by omega) va vb _ (by first | exact hs.rowRd 0 rfl | exact hs.rowRd 1 rfl | exact hs.rowRd 2 rfl | exact hs.rowRd 3 rfl | exact hs.rowRd 4 rfl | exact hs.rowRd 5 rfl | exact hs.rowRd 6 rfl | exact hs.rowRd 7 rfl | exact hs.rowRd 8 rfl | exact hs.rowRd 9 rfl | exact hs.rowRd 10 rfl | exact hs.rowRd 11 rfl | exact hs.rowRd 12 rfl | exact hs.rowRd 13 rfl | exact Rd.st (by assumption) hs) (by first | exact hs.rowRd 0 rfl | exact hs.rowRd 1 rfl | exact hs.rowRd 2 rfl | exact hs.rowRd 3 rfl | exact hs.rowRd 4 rfl | exact hs.rowRd 5 rfl | exact hs.rowRd 6 rfl | exact hs.rowRd 7 rfl | exact hs.rowRd 8 rfl | exact hs.rowRd 9 rfl | exact hs.rowRd 10 rfl | exact hs.rowRd 11 rfl | exact hs.rowRd 12 rfl | exact hs.rowRd 13 rfl | exact Rd.st (by assumption) hs)) rfl rfl fun _ => ?_
            have hww : w0 * w0 < 256 ^ (ja + jb + 1) := by
              rw [Nat.pow_succ, Nat.pow_add]
              have := Nat.mul_lt_mul'' hja hjb
              omega
            generalize w0 * w0 = ww at *
            have tm := fun v1 w h h' => ntimes_any ww c (ja + jb + 1) jc hww hjc (by omega) (by omega) v1 vc w h h'
            have hp : ww * c < 256 ^ (ja + jb + 1 + jc + 1) := by
              rw [Nat.pow_succ _ (ja + jb + 1 + jc), Nat.pow_add _ (ja + jb + 1)]
              have := Nat.mul_lt_mul'' hww hjc
              omega
            generalize ww * c = p at *
            generalize hlp : ja + jb + 1 + jc + 1 = lp at *
            have hlp2 : lp ≤ 60 := by omega
            clear hlp
            refine S_mv rfl rfl rfl ?_
            refine S_callR _ rfl rfl (bod rfl) (fun w hs => tm _ _ (by first | exact hs.rowRd 0 rfl | exact hs.rowRd 1 rfl | exact hs.rowRd 2 rfl | exact hs.rowRd 3 rfl | exact hs.rowRd 4 rfl | exact hs.rowRd 5 rfl | exact hs.rowRd 6 rfl | exact hs.rowRd 7 rfl | exact hs.rowRd 8 rfl | exact hs.rowRd 9 rfl | exact hs.rowRd 10 rfl | exact hs.rowRd 11 rfl | exact hs.rowRd 12 rfl | exact hs.rowRd 13 rfl | exact Rd.st (by assumption) hs) (by first | exact hs.rowRd 0 rfl | exact hs.rowRd 1 rfl | exact hs.rowRd 2 rfl | exact hs.rowRd 3 rfl | exact hs.rowRd 4 rfl | exact hs.rowRd 5 rfl | exact hs.rowRd 6 rfl | exact hs.rowRd 7 rfl | exact hs.rowRd 8 rfl | exact hs.rowRd 9 rfl | exact hs.rowRd 10 rfl | exact hs.rowRd 11 rfl | exact hs.rowRd 12 rfl | exact hs.rowRd 13 rfl | exact Rd.st (by assumption) hs)) rfl rfl fun _ => ?_
            skip
            refine S_call _ rfl rfl (bod rfl) (fun w hs => d3 _) rfl rfl ?_
            rintro v3 _ ⟨j3, hj3, hj38, rfl⟩
            have dv := fun v1 w h h' => ndiv_any p 3 lp j3 hp hj3 (by omega) (by omega) v1 v3 w h h'
            have hq2 : p / 3 < 256 ^ lp := Nat.lt_of_le_of_lt (Nat.div_le_self _ _) hp
            skip
            refine S_call _ rfl rfl (bod rfl) (fun w hs => dv _ _ (by first | exact hs.rowRd 0 rfl | exact hs.rowRd 1 rfl | exact hs.rowRd 2 rfl | exact hs.rowRd 3 rfl | exact hs.rowRd 4 rfl | exact hs.rowRd 5 rfl | exact hs.rowRd 6 rfl | exact hs.rowRd 7 rfl | exact hs.rowRd 8 rfl | exact hs.rowRd 9 rfl | exact hs.rowRd 10 rfl | exact hs.rowRd 11 rfl | exact hs.rowRd 12 rfl | exact hs.rowRd 13 rfl | exact Rd.st (by assumption) hs) (by first | exact hs.rowRd 0 rfl | exact hs.rowRd 1 rfl | exact hs.rowRd 2 rfl | exact hs.rowRd 3 rfl | exact hs.rowRd 4 rfl | exact hs.rowRd 5 rfl | exact hs.rowRd 6 rfl | exact hs.rowRd 7 rfl | exact hs.rowRd 8 rfl | exact hs.rowRd 9 rfl | exact hs.rowRd 10 rfl | exact hs.rowRd 11 rfl | exact hs.rowRd 12 rfl | exact hs.rowRd 13 rfl | exact Rd.st (by assumption) hs)) rfl rfl ?_
            rintro _ _ ⟨jr, rr, vq, vr, _, _, _, rfl, rfl⟩
            refine S_mv rfl rfl rfl ?_
            refine S_val rfl rfl (Y_extract rfl rfl) ?_
            refine S_val rfl rfl (Y_extract rfl rfl) ?_
            refine S_as rfl rfl rfl ?_
            refine S_as rfl rfl rfl ?_
            refine S_nx ?_
            refine T_seq ?_
            refine T_sr ?_
            refine S_mv rfl rfl rfl ?_
            refine S_mv rfl rfl rfl ?_
            generalize p / 3 = q at *
            refine S_call _ rfl rfl (bod rfl) (fun w hs => dn _) rfl rfl ?_
            rintro vn _ ⟨jn, hjn, hjn8, rfl⟩
            have lss := fun w h h' => nless_any q nn lp jn hq2 hjn (by omega) (by omega) vq vn w h h'
            clear dv tm dw d3 dn hww hja hjb hj3 hjn hp hjc
            by_cases hq : q < nn
            · rw [decide_eq_true hq] at lss
              have hg2 : ((max q 200 : Nat) : Int) = (g : Int) := by omega
              clear hg
              skip
              refine S_callV rfl rfl (bod rfl) (fun w hs => lss _ (by first | exact hs.rowRd 0 rfl | exact hs.rowRd 1 rfl | exact hs.rowRd 2 rfl | exact hs.rowRd 3 rfl | exact hs.rowRd 4 rfl | exact hs.rowRd 5 rfl | exact hs.rowRd 6 rfl | exact hs.rowRd 7 rfl | exact hs.rowRd 8 rfl | exact hs.rowRd 9 rfl | exact hs.rowRd 10 rfl | exact hs.rowRd 11 rfl | exact hs.rowRd 12 rfl | exact hs.rowRd 13 rfl | exact Rd.st (by assumption) hs) (by first | exact hs.rowRd 0 rfl | exact hs.rowRd 1 rfl | exact hs.rowRd 2 rfl | exact hs.rowRd 3 rfl | exact hs.rowRd 4 rfl | exact hs.rowRd 5 rfl | exact hs.rowRd 6 rfl | exact hs.rowRd 7 rfl | exact hs.rowRd 8 rfl | exact hs.rowRd 9 rfl | exact hs.rowRd 10 rfl | exact hs.rowRd 11 rfl | exact hs.rowRd 12 rfl | exact hs.rowRd 13 rfl | exact Rd.st (by assumption) hs)) rfl rfl ?_
              refine S_val rfl rfl (Y_not rfl rfl) ?_
              refine S_nx ?_
              refine T_cond_false rfl ?_
              refine T_skip ?_
              refine X_seq ?_
              refine T_sr ?_
              refine S_as rfl rfl rfl ?_
              refine S_nx ?_
              refine T_seq ?_
              refine T_sr ?_
              refine S_mv rfl rfl rfl ?_
              refine S_val rfl rfl (Y_lenV rfl (und rfl) rfl (fun _ hs => hs.rowRd 6 rfl) (dl_length _ _ _)) ?_
              refine S_val rfl rfl (Y_sub rfl rfl (wi64 (by omega) (by omega))) ?_
              refine S_as rfl rfl rfl ?_
              refine S_nx ?_
              refine T_block ?_
              refine T_loopE (α := Nat) (fun j => j ≤ lp)
                (fun j => [(14, vq), (16, .int .u64 ((q / 256 ^ j : Nat) : Int)), (17, .int .i64 ((j : Int) - 1))])
                (fun j => [row .i64 (dl 256 lp q) vq])
                (fun j => j) lp (Nat.le_refl _) (by rw [Nat.div_eq_of_lt hq2]; exact (by repeat (first | exact Env.sub_nil _ | (apply Env.sub_cons; rfl)))) (Emb.one 6 rfl) ?_
              intro j hj
              have hle : q / 256 ^ j ≤ q := Nat.div_le_self _ _
              by_cases h0 : j = 0
              · subst h0
                have hqq : q / 256 ^ 0 = q := by rw [Nat.pow_zero, Nat.div_one]
                rw [hqq]
                refine T_seq ?_
                refine T_sr ?_
                refine S_mv rfl rfl rfl ?_
                refine S_val rfl rfl (Y_geq_f rfl rfl (by decide)) ?_
                refine S_nx ?_
                refine T_cond_false rfl ?_
                refine T_exit ?_
                refine X_seq_exit ?_
                refine X_loop_exit ?_
                refine X_blk_hit rfl ?_
                refine X_seq ?_
                refine T_sr ?_
                refine S_mv rfl rfl rfl ?_
                refine S_val rfl rfl (Y_max rfl rfl (nat_cast _) (nat_lit' _)) ?_
                refine S_as rfl rfl rfl ?_
                refine S_nx ?_
                refine T_ret ?_
                ((first | refine X_fin_ret ?_ | refine X_fin ?_); exact ⟨[_], [], .cons (.tmp rfl) .nil, Emb.nil _, by show Value.int .u64 ((max q 200 : Nat) : Int) = _; rw [hg2], rfl⟩)
              · obtain ⟨i, rfl⟩ : ∃ i, j = i + 1 := ⟨j - 1, by omega⟩
                rw [show (((i + 1 : Nat) : Int) - 1) = (i : Int) by omega]
                have hd := dig256_lt q i
                have hq1 : q / 256 ^ i = q / 256 ^ (i + 1) * 256 + q / 256 ^ i % 256 := by
                  rw [Nat.pow_succ, ← Nat.div_div_eq_div_mul]
                  omega
                have hle2 : q / 256 ^ i ≤ q := Nat.div_le_self _ _
                have hlt : q / 256 ^ (i + 1) * 256 + q / 256 ^ i % 256 < 18446744073709551616 := by omega
                have hm : q / 256 ^ (i + 1) * 256 < 18446744073709551616 := by omega
                clear hle hle2
                refine T_seq ?_
                refine T_sr ?_
                refine S_mv rfl rfl rfl ?_
                refine S_val rfl rfl (Y_geq_t rfl rfl (by omega)) ?_
                refine S_nx ?_
                refine T_cond_true rfl ?_
                refine T_skip ?_
                refine X_seq ?_
                refine T_seq ?_
                refine T_block ?_
                refine T_region ?_
                refine S_mv rfl rfl rfl ?_
                refine S_val rfl rfl (Y_mulU rfl rfl (nat_cast _) (nat_lit' _) rfl (by simp only [IntKind.bits]; assumption)) ?_
                refine S_mv rfl rfl rfl ?_
                refine S_mv rfl rfl rfl ?_
                refine S_val rfl rfl (Y_ixV (und rfl) (siz rfl) rfl rfl (fun _ hs => hs.rowRd 0 rfl) (nat_cast _) (dl_lt (by assumption))) ?_
                refine S_val rfl rfl (Y_loadV (und rfl) rfl rfl (fun _ hs => hs.rowRd 0 rfl) (dl_get (by assumption))) ?_
                refine S_val rfl rfl (Y_conv (und rfl) (und rfl) rfl (wu64 (by omega) (by omega))) ?_
                refine S_val rfl rfl (Y_addU rfl rfl (nat_cast _) (nat_cast _) rfl (by simp only [IntKind.bits]; assumption)) ?_
                refine S_as rfl rfl rfl ?_
                refine S_nil ?_
                refine X_blk ?_
                refine X_seq ?_
                refine T_region ?_
                refine S_mv rfl rfl rfl ?_
                refine S_val rfl rfl (Y_sub rfl rfl (wi64 (by omega) (by omega))) ?_
                refine S_as rfl rfl rfl ?_
                refine S_nil ?_
                rw [← hq1]
                refine X_loop ?_
                exact ⟨i, by omega, by omega, (by repeat (first | exact Env.sub_nil _ | (apply Env.sub_cons; rfl))), Emb.refl _⟩
            · rw [decide_eq_false hq] at lss
              have hg2 : (18446744073709551615 : Int) = (g : Int) := by omega
              clear hg
              skip
              refine S_callV rfl rfl (bod rfl) (fun w hs => lss _ (by first | exact hs.rowRd 0 rfl | exact hs.rowRd 1 rfl | exact hs.rowRd 2 rfl | exact hs.rowRd 3 rfl | exact hs.rowRd 4 rfl | exact hs.rowRd 5 rfl | exact hs.rowRd 6 rfl | exact hs.rowRd 7 rfl | exact hs.rowRd 8 rfl | exact hs.rowRd 9 rfl | exact hs.rowRd 10 rfl | exact hs.rowRd 11 rfl | exact hs.rowRd 12 rfl | exact hs.rowRd 13 rfl | exact Rd.st (by assumption) hs) (by first | exact hs.rowRd 0 rfl | exact hs.rowRd 1 rfl | exact hs.rowRd 2 rfl | exact hs.rowRd 3 rfl | exact hs.rowRd 4 rfl | exact hs.rowRd 5 rfl | exact hs.rowRd 6 rfl | exact hs.rowRd 7 rfl | exact hs.rowRd 8 rfl | exact hs.rowRd 9 rfl | exact hs.rowRd 10 rfl | exact hs.rowRd 11 rfl | exact hs.rowRd 12 rfl | exact hs.rowRd 13 rfl | exact Rd.st (by assumption) hs)) rfl rfl ?_
              refine S_val rfl rfl (Y_not rfl rfl) ?_
              refine S_nx ?_
              refine T_cond_true rfl ?_
              refine T_sr ?_
              refine S_mv rfl rfl rfl ?_
              refine S_as rfl rfl rfl ?_
              refine S_nx ?_
              refine T_ret ?_
              refine X_seq_ret ?_
              ((first | refine X_fin_ret ?_ | refine X_fin ?_); exact ⟨[_], [], .cons (.tmp rfl) .nil, Emb.nil _, by show Value.int .u64 18446744073709551615 = _; rw [hg2], rfl⟩)
end Go.Proofs.YtjolmphkmfbpbaaDoor
/- A slice of values that is written out. -/
namespace Go.Proofs.YtjolmphkmfbpbaaDoor
open Go.RowKit
set_option maxRecDepth 20000
structure RdV (w : World) (v : Value) (vs : List Value) : Prop where
  out : ∃ b e fz, v = .slice (some ⟨b, 0, none⟩) vs.length vs.length ∧ w.heap[b]? = some (.cells vs.toArray e fz)
section
variable {C : Ctx} {K0 : K} {E : Env} {L : Hp} {ops : Array Oper} {rest : List Oper} {ty : TypeId} {pos : String} {af : Array Edge} {g : Option (Nat × Bool)}
variable {x y z : Operand} {t e : TypeId} {d : Nat} {u v s zv : Value}
end
section
variable {C : Ctx} {E : Env} {L : Hp} {dst : Option Tmp} {ty : TypeId} {pos : String} {af : Array Edge} {g : Option (Nat × Bool)}
/-- An element of an array that is a value: some of its integers. -/
theorem Y_indexP {x y : Operand} {t e : TypeId} {k kd : IntKind} {p : Int} {n i sz : Nat} {l r : List Int} {d : TypeDesc} (ht : C.P.underlying t = some (.array n e)) (he : szOf C.P e = some sz) (hu : C.P.underlying e = some d) (hd : isAggB d = true) (hx : ev E x = some (.agg (ints kd l))) (hy : ev E y = some (.int k p))
    (hp : IsNat p i) (hi : i < n) (hr : (l.drop (i * sz)).take sz = r) : Yv C E L ⟨dst, .index t x y, ty, pos, af, g⟩ (.agg (ints kd r)) := by
  refine ⟨fun a w h _ => ?_⟩
  have hp := hp.eq
  have h1 : 0 ≤ p ∧ p < (n : Int) := by omega
  have h2 : p.toNat = i := by omega
  have h3 : (ints kd l).extract (i * sz) (i * sz + sz) = ints kd r := by
    rw [← hr]
    simp [ints, List.map_take, List.map_drop]
  simp [execOp, h.eval hx, h.eval hy, Instr.index, asIntOf, run_underlying ht, run_sizeOf he, h1, h2, part, run_isAgg hu, hd, h3]
end
end Go.Proofs.YtjolmphkmfbpbaaDoor
/- Layer 9: the chapter's examples; what is too long; the laws ModexpGas and ModexpPowers. -/
namespace Go.Proofs.YtjolmphkmfbpbaaDoor
open Go.RowKit
set_option maxRecDepth 20000
set_option maxHeartbeats 4000000
theorem Rd.nil (w : World) (k : IntKind) : Rd w (.slice none 0 0) k [] := ⟨none, 0, rfl, Nat.le_refl _, .inl rfl⟩
end Go.Proofs.YtjolmphkmfbpbaaDoor
/- The law ModexpRuns hands back true. -/
namespace Go.Proofs.YtjolmphkmfbpbaaDoor
open Go.RowKit
set_option maxRecDepth 20000
set_option maxHeartbeats 4000000
/-- A part of an input. -/
def inN (n x at_ k : Nat) : Nat := qN n x (at_ + k) % 256 ^ k
theorem inN_lt (n x at_ k : Nat) : inN n x at_ k < 256 ^ k := Nat.mod_lt _ (Nat.pow_pos (by omega))
theorem inN_bel (n x at_ k : Nat) : bel k (qN n x (at_ + k)) = bel k (inN n x at_ k) := by unfold inN; rw [bel_mod]
def runN (n x : Nat) : Nat := powN (inN n x 96 (lenN n x 0)) (inN n x (96 + lenN n x 0) (lenN n x 1)) (inN n x (96 + lenN n x 0 + lenN n x 1) (lenN n x 2))
theorem mrun_nil (n x : Nat) (hx : x < 256 ^ n) (hn : n ≤ 1000000) (v : Value) (w : World) (hr : Rd w v .u8 (bel n x)) (h : lenN n x 0 = 0 ∧ lenN n x 2 = 0) :
    Fn Tryd.prog 13 #[v] w fun u N => u = .tuple #[.slice none 0 0, .int .i64 0] ∧ N = [] := by
  have lg := fun w h => mlengths_any n x hx hn v w h
  have w3l := w3_length (lenN n x 0) (lenN n x 1) (lenN n x 2)
  have e1 := dl4_eq h.1
  have e2 := dl4_eq h.2
  clear h
  generalize lenN n x 0 = b at *
  generalize lenN n x 1 = e at *
  generalize lenN n x 2 = m at *
  refine Fn_of (args := [v]) Tryd.func13 rfl Tryd.ntmps13 Tryd.results13 (by simp) ?_
  refine T_sr ?_
  refine S_as rfl rfl rfl ?_
  refine S_as rfl rfl rfl ?_
  refine S_nx ?_
  refine T_sr ?_
  refine S_mv rfl rfl rfl ?_
  refine S_callV rfl rfl (bod rfl) (fun w hs => lg _ (by first | exact hs.rowRd 0 rfl | exact hs.rowRd 1 rfl | exact hs.rowRd 2 rfl | exact hs.rowRd 3 rfl | exact hs.rowRd 4 rfl | exact hs.rowRd 5 rfl | exact hs.rowRd 6 rfl | exact hs.rowRd 7 rfl | exact hs.rowRd 8 rfl | exact hs.rowRd 9 rfl | exact hs.rowRd 10 rfl | exact hs.rowRd 11 rfl | exact hs.rowRd 12 rfl | exact hs.rowRd 13 rfl | exact Rd.st (by assumption) hs)) rfl rfl ?_
  refine S_allocA (zer rfl) rfl rfl fun _ => ?_
  refine S_storeAI 0 (siz rfl) rfl rfl rfl rfl rfl rfl ?_
  refine S_nx ?_
  refine T_seq ?_
  refine T_sr ?_
  refine S_val rfl rfl (Y_ixg (und rfl) (siz rfl) rfl rfl (nat_lit' _) (Nat.le_of_ble_eq_true rfl)) ?_
  refine S_val rfl rfl (Y_loadPX 0 (und rfl) rfl rfl rfl (siz rfl) (Nat.le_of_ble_eq_true rfl) (w3_0 _ _ _)) ?_
  refine S_val rfl rfl (Y_build (und rfl) (siz rfl) (zer rfl) rfl rfl) ?_
  refine S_val rfl rfl (Y_eqlA_t (eqg rfl) (und rfl) (und rfl) (siz rfl) rfl rfl (dl_length _ _ _) (by assumption)) ?_
  refine S_mv rfl rfl rfl ?_
  refine S_val rfl rfl (Y_ixg (und rfl) (siz rfl) rfl rfl (nat_lit' _) (Nat.le_of_ble_eq_true rfl)) ?_
  refine S_val rfl rfl (Y_loadPX 0 (und rfl) rfl rfl rfl (siz rfl) (Nat.le_of_ble_eq_true rfl) (w3_2 _ _ _)) ?_
  refine S_val rfl rfl (Y_build (und rfl) (siz rfl) (zer rfl) rfl rfl) ?_
  refine S_val rfl rfl (Y_eqlA_t (eqg rfl) (und rfl) (und rfl) (siz rfl) rfl rfl (dl_length _ _ _) (by assumption)) ?_
  refine S_val rfl rfl (Y_pick_t rfl rfl) ?_
  refine S_nx ?_
  refine T_cond_true rfl ?_
  refine T_sr ?_
  refine S_as rfl rfl rfl ?_
  refine S_as rfl rfl rfl ?_
  refine S_nx ?_
  refine T_ret ?_
  refine X_seq_ret ?_
  ((first | refine X_fin_ret ?_ | refine X_fin ?_); exact ⟨[_, _], [], .cons (.tmp rfl) (.cons (.tmp rfl) .nil), Emb.nil _, rfl, rfl⟩)
theorem ne_of_len {b m : Nat} (hb : b < 2 ^ 256) (hm : m < 2 ^ 256) (h : ¬ (b = 0 ∧ m = 0)) : ¬ (dl 18446744073709551616 4 b = fillI (List.replicate 4 0) []) ∨ (dl 18446744073709551616 4 b = fillI (List.replicate 4 0) [] ∧ ¬ (dl 18446744073709551616 4 m = fillI (List.replicate 4 0) [])) := by
  by_cases h1 : b = 0
  · exact .inr ⟨dl4_eq h1, dl4_ne hm fun h2 => h ⟨h1, h2⟩⟩
  · exact .inl (dl4_ne hb h1)
theorem mrun_long (n x : Nat) (hx : x < 256 ^ n) (hn : n ≤ 1000000) (v : Value) (w : World) (hr : Rd w v .u8 (bel n x)) (h : ¬ (lenN n x 0 = 0 ∧ lenN n x 2 = 0)) (hl : 64 < lenN n x 0 ∨ 64 < lenN n x 1 ∨ 64 < lenN n x 2) :
    Fn Tryd.prog 13 #[v] w fun u N => u = .tuple #[.slice none 0 0, .int .i64 4] ∧ N = [] := by
  have lg := fun w h => mlengths_any n x hx hn v w h
  have w3l := w3_length (lenN n x 0) (lenN n x 1) (lenN n x 2)
  have hne := ne_of_len (lenN_lt n x 0) (lenN_lt n x 2) h
  have sb := small_any _ (lenN_lt n x 0)
  have se := small_any _ (lenN_lt n x 1)
  have sm := small_any _ (lenN_lt n x 2)
  clear h
  generalize lenN n x 0 = b at *
  generalize lenN n x 1 = e at *
  generalize lenN n x 2 = m at *
  have st : ∀ (z : Nat), (∀ w, Fn Tryd.prog 22 #[W z] w fun v N => v = .tuple #[.int .u64 ((if z < 18446744073709551616 then z else 0 : Nat) : Int), .bool (decide (z < 18446744073709551616))] ∧ N = []) → z ≤ 64 → ∀ w, Fn Tryd.prog 22 #[W z] w fun v N => v = .tuple #[.int .u64 z, .bool true] ∧ N = [] := fun z h hz w => by
    have := h w
    rwa [if_pos (by omega), decide_eq_true (by omega)] at this
  have st2 : ∀ (z : Nat), (∀ w, Fn Tryd.prog 22 #[W z] w fun v N => v = .tuple #[.int .u64 ((if z < 18446744073709551616 then z else 0 : Nat) : Int), .bool (decide (z < 18446744073709551616))] ∧ N = []) → 64 < z → (64 < z ∧ ∀ w, Fn Tryd.prog 22 #[W z] w fun v N => v = .tuple #[.int .u64 z, .bool true] ∧ N = []) ∨ ∀ w, Fn Tryd.prog 22 #[W z] w fun v N => v = .tuple #[.int .u64 (0 : Nat), .bool false] ∧ N = [] := fun z h hz => by
    by_cases h2 : z < 18446744073709551616
    · exact .inl ⟨hz, fun w => by have := h w; rwa [if_pos h2, decide_eq_true h2] at this⟩
    · exact .inr fun w => by have := h w; rwa [if_neg h2, decide_eq_false h2] at this
  rcases (show 64 < b ∨ (b ≤ 64 ∧ 64 < e) ∨ (b ≤ 64 ∧ e ≤ 64 ∧ 64 < m) by omega) with h0 | ⟨h0, h1⟩ | ⟨h0, h1, h2⟩
  · rcases hne with n1 | ⟨n1, n2⟩ <;> rcases st2 b sb h0 with ⟨g0, s0⟩ | s0 <;> clear hl sb se sm st st2 h0
    all_goals
      refine Fn_of (args := [v]) Tryd.func13 rfl Tryd.ntmps13 Tryd.results13 (by simp) ?_
      refine T_sr ?_
      refine S_as rfl rfl rfl ?_
      refine S_as rfl rfl rfl ?_
      refine S_nx ?_
      refine T_sr ?_
      refine S_mv rfl rfl rfl ?_
      refine S_callV rfl rfl (bod rfl) (fun w hs => lg _ (by first | exact hs.rowRd 0 rfl | exact hs.rowRd 1 rfl | exact hs.rowRd 2 rfl | exact hs.rowRd 3 rfl | exact hs.rowRd 4 rfl | exact hs.rowRd 5 rfl | exact hs.rowRd 6 rfl | exact hs.rowRd 7 rfl | exact hs.rowRd 8 rfl | exact hs.rowRd 9 rfl | exact hs.rowRd 10 rfl | exact hs.rowRd 11 rfl | exact hs.rowRd 12 rfl | exact hs.rowRd 13 rfl | exact Rd.st (by assumption) hs)) rfl rfl ?_
      first | (refine S_allocA (zer rfl) rfl rfl fun _ => ?_; refine S_storeAI 0 (siz rfl) rfl rfl rfl rfl rfl rfl ?_; refine S_nx ?_; refine T_seq ?_; refine T_sr ?_; refine S_val rfl rfl (Y_ixg (und rfl) (siz rfl) rfl rfl (nat_lit' _) (Nat.le_of_ble_eq_true rfl)) ?_; refine S_val rfl rfl (Y_loadPX 0 (und rfl) rfl rfl rfl (siz rfl) (Nat.le_of_ble_eq_true rfl) (w3_0 _ _ _)) ?_; refine S_val rfl rfl (Y_build (und rfl) (siz rfl) (zer rfl) rfl rfl) ?_; refine S_val rfl rfl (Y_eqlA_f (eqg rfl) (und rfl) (und rfl) (siz rfl) rfl rfl (dl_length _ _ _) rfl (by assumption)) ?_; refine S_mv rfl rfl rfl ?_; refine S_skip rfl rfl ?_; refine S_skip rfl rfl ?_; refine S_skip rfl rfl ?_; refine S_skip rfl rfl ?_; refine S_val rfl rfl (Y_pick_f rfl rfl) ?_; refine S_nx ?_; refine T_cond_false rfl ?_; refine T_skip ?_; refine X_seq ?_; refine T_sr ?_; refine S_allocA (zer rfl) rfl rfl fun _ => ?_; refine S_nx ?_; refine T_seq ?_; refine T_sr ?_; refine S_val rfl rfl (Y_loadAI 0 (und rfl) rfl rfl rfl (siz rfl) rfl) ?_; refine S_mv rfl rfl rfl ?_; refine S_nx ?_; refine T_block ?_) | (refine S_allocA (zer rfl) rfl rfl fun _ => ?_; refine S_storeAI 0 (siz rfl) rfl rfl rfl rfl rfl rfl ?_; refine S_nx ?_; refine T_seq ?_; refine T_sr ?_; refine S_val rfl rfl (Y_ixg (und rfl) (siz rfl) rfl rfl (nat_lit' _) (Nat.le_of_ble_eq_true rfl)) ?_; refine S_val rfl rfl (Y_loadPX 0 (und rfl) rfl rfl rfl (siz rfl) (Nat.le_of_ble_eq_true rfl) (w3_0 _ _ _)) ?_; refine S_val rfl rfl (Y_build (und rfl) (siz rfl) (zer rfl) rfl rfl) ?_; refine S_val rfl rfl (Y_eqlA_t (eqg rfl) (und rfl) (und rfl) (siz rfl) rfl rfl (dl_length _ _ _) (by assumption)) ?_; refine S_mv rfl rfl rfl ?_; refine S_val rfl rfl (Y_ixg (und rfl) (siz rfl) rfl rfl (nat_lit' _) (Nat.le_of_ble_eq_true rfl)) ?_; refine S_val rfl rfl (Y_loadPX 0 (und rfl) rfl rfl rfl (siz rfl) (Nat.le_of_ble_eq_true rfl) (w3_2 _ _ _)) ?_; refine S_val rfl rfl (Y_build (und rfl) (siz rfl) (zer rfl) rfl rfl) ?_; refine S_val rfl rfl (Y_eqlA_f (eqg rfl) (und rfl) (und rfl) (siz rfl) rfl rfl (dl_length _ _ _) rfl (by assumption)) ?_; refine S_val rfl rfl (Y_pick_t rfl rfl) ?_; refine S_nx ?_; refine T_cond_false rfl ?_; refine T_skip ?_; refine X_seq ?_; refine T_sr ?_; refine S_allocA (zer rfl) rfl rfl fun _ => ?_; refine S_nx ?_; refine T_seq ?_; refine T_sr ?_; refine S_val rfl rfl (Y_loadAI 0 (und rfl) rfl rfl rfl (siz rfl) rfl) ?_; refine S_mv rfl rfl rfl ?_; refine S_nx ?_; refine T_block ?_)
      rename_i b4 b5
      refine T_loopE (α := Nat × List Int) (fun a => a = (0, [0, 0, 0]))
        (fun a => [(0, v), (5, .pointer (some ⟨b5, 0, none⟩)), (24, .agg (ints .u64 (w3 b e m))), (25, .int .i64 a.1)])
        (fun a => [blk b5 (.cells (ints .u64 a.2) 53 (0, 0))])
        (fun a => 3 - a.1) (0, [0, 0, 0]) (rfl) (by repeat (first | exact Env.sub_nil _ | (apply Env.sub_cons; rfl))) (Emb.one 1 rfl) ?_
      rintro _ rfl
      refine T_sr ?_
      refine S_val rfl rfl (Y_lss_t rfl rfl (by decide)) ?_
      refine S_nx ?_
      refine T_seq ?_
      refine T_cond_true rfl ?_
      refine T_skip ?_
      refine X_seq ?_
      refine T_seq ?_
      refine T_block ?_
      refine T_sr ?_
      refine S_mv rfl rfl rfl ?_
      refine S_val rfl rfl (Y_indexP (und rfl) (siz rfl) (und rfl) rfl rfl rfl (nat_cast _) (Nat.le_of_ble_eq_true rfl) (w3_0 _ _ _)) ?_
      refine S_allocA (zer rfl) rfl rfl fun _ => ?_
      refine S_as rfl rfl rfl ?_
      refine S_storeAI 1 (siz rfl) rfl rfl rfl rfl (dl_length _ _ _) rfl ?_
      refine S_nx ?_
      refine T_sr ?_
      refine S_val rfl rfl (Y_loadAI 1 (und rfl) rfl rfl rfl (siz rfl) (dl_length _ _ _)) ?_
      refine S_callV rfl rfl (bod rfl) (fun w hs => s0 _) rfl rfl ?_
      first | (refine S_mv rfl rfl rfl ?_; refine S_val rfl rfl (Y_extract rfl rfl) ?_; refine S_val rfl rfl (Y_extract rfl rfl) ?_; refine S_as rfl rfl rfl ?_; refine S_as rfl rfl rfl ?_; refine S_nx ?_; refine T_seq ?_; refine T_sr ?_; refine S_mv rfl rfl rfl ?_; refine S_val rfl rfl (Y_not rfl rfl) ?_; refine S_mv rfl rfl rfl ?_; refine S_mv rfl rfl rfl ?_; refine S_val rfl rfl (Y_gtr_t rfl rfl (by omega)) ?_; refine S_val rfl rfl (Y_pick_f rfl rfl) ?_; refine S_nx ?_; refine T_cond_true rfl ?_; refine T_sr ?_; refine S_as rfl rfl rfl ?_; refine S_as rfl rfl rfl ?_; refine S_nx ?_; refine T_ret ?_; refine X_seq_ret ?_; refine X_blk_ret ?_; refine X_seq_ret ?_; refine X_loop_ret ?_; refine X_blk_ret ?_; refine X_seq_ret ?_) | (refine S_mv rfl rfl rfl ?_; refine S_val rfl rfl (Y_extract rfl rfl) ?_; refine S_val rfl rfl (Y_extract rfl rfl) ?_; refine S_as rfl rfl rfl ?_; refine S_as rfl rfl rfl ?_; refine S_nx ?_; refine T_seq ?_; refine T_sr ?_; refine S_mv rfl rfl rfl ?_; refine S_val rfl rfl (Y_not rfl rfl) ?_; refine S_mv rfl rfl rfl ?_; refine S_skip rfl rfl ?_; refine S_skip rfl rfl ?_; refine S_val rfl rfl (Y_pick_t rfl rfl) ?_; refine S_nx ?_; refine T_cond_true rfl ?_; refine T_sr ?_; refine S_as rfl rfl rfl ?_; refine S_as rfl rfl rfl ?_; refine S_nx ?_; refine T_ret ?_; refine X_seq_ret ?_; refine X_blk_ret ?_; refine X_seq_ret ?_; refine X_loop_ret ?_; refine X_blk_ret ?_; refine X_seq_ret ?_)
      ((first | refine X_fin_ret ?_ | refine X_fin ?_); exact ⟨[_, _], [], .cons (.tmp rfl) (.cons (.tmp rfl) .nil), Emb.nil _, rfl, rfl⟩)
  · have s0 := st b sb h0
    rcases hne with n1 | ⟨n1, n2⟩ <;> rcases st2 e se h1 with ⟨g1, s1⟩ | s1 <;> clear hl sb se sm st st2 h1
    all_goals
      refine Fn_of (args := [v]) Tryd.func13 rfl Tryd.ntmps13 Tryd.results13 (by simp) ?_
      refine T_sr ?_
      refine S_as rfl rfl rfl ?_
      refine S_as rfl rfl rfl ?_
      refine S_nx ?_
      refine T_sr ?_
      refine S_mv rfl rfl rfl ?_
      refine S_callV rfl rfl (bod rfl) (fun w hs => lg _ (by first | exact hs.rowRd 0 rfl | exact hs.rowRd 1 rfl | exact hs.rowRd 2 rfl | exact hs.rowRd 3 rfl | exact hs.rowRd 4 rfl | exact hs.rowRd 5 rfl | exact hs.rowRd 6 rfl | exact hs.rowRd 7 rfl | exact hs.rowRd 8 rfl | exact hs.rowRd 9 rfl | exact hs.rowRd 10 rfl | exact hs.rowRd 11 rfl | exact hs.rowRd 12 rfl | exact hs.rowRd 13 rfl | exact Rd.st (by assumption) hs)) rfl rfl ?_
      first | (refine S_allocA (zer rfl) rfl rfl fun _ => ?_; refine S_storeAI 0 (siz rfl) rfl rfl rfl rfl rfl rfl ?_; refine S_nx ?_; refine T_seq ?_; refine T_sr ?_; refine S_val rfl rfl (Y_ixg (und rfl) (siz rfl) rfl rfl (nat_lit' _) (Nat.le_of_ble_eq_true rfl)) ?_; refine S_val rfl rfl (Y_loadPX 0 (und rfl) rfl rfl rfl (siz rfl) (Nat.le_of_ble_eq_true rfl) (w3_0 _ _ _)) ?_; refine S_val rfl rfl (Y_build (und rfl) (siz rfl) (zer rfl) rfl rfl) ?_; refine S_val rfl rfl (Y_eqlA_f (eqg rfl) (und rfl) (und rfl) (siz rfl) rfl rfl (dl_length _ _ _) rfl (by assumption)) ?_; refine S_mv rfl rfl rfl ?_; refine S_skip rfl rfl ?_; refine S_skip rfl rfl ?_; refine S_skip rfl rfl ?_; refine S_skip rfl rfl ?_; refine S_val rfl rfl (Y_pick_f rfl rfl) ?_; refine S_nx ?_; refine T_cond_false rfl ?_; refine T_skip ?_; refine X_seq ?_; refine T_sr ?_; refine S_allocA (zer rfl) rfl rfl fun _ => ?_; refine S_nx ?_; refine T_seq ?_; refine T_sr ?_; refine S_val rfl rfl (Y_loadAI 0 (und rfl) rfl rfl rfl (siz rfl) rfl) ?_; refine S_mv rfl rfl rfl ?_; refine S_nx ?_; refine T_block ?_) | (refine S_allocA (zer rfl) rfl rfl fun _ => ?_; refine S_storeAI 0 (siz rfl) rfl rfl rfl rfl rfl rfl ?_; refine S_nx ?_; refine T_seq ?_; refine T_sr ?_; refine S_val rfl rfl (Y_ixg (und rfl) (siz rfl) rfl rfl (nat_lit' _) (Nat.le_of_ble_eq_true rfl)) ?_; refine S_val rfl rfl (Y_loadPX 0 (und rfl) rfl rfl rfl (siz rfl) (Nat.le_of_ble_eq_true rfl) (w3_0 _ _ _)) ?_; refine S_val rfl rfl (Y_build (und rfl) (siz rfl) (zer rfl) rfl rfl) ?_; refine S_val rfl rfl (Y_eqlA_t (eqg rfl) (und rfl) (und rfl) (siz rfl) rfl rfl (dl_length _ _ _) (by assumption)) ?_; refine S_mv rfl rfl rfl ?_; refine S_val rfl rfl (Y_ixg (und rfl) (siz rfl) rfl rfl (nat_lit' _) (Nat.le_of_ble_eq_true rfl)) ?_; refine S_val rfl rfl (Y_loadPX 0 (und rfl) rfl rfl rfl (siz rfl) (Nat.le_of_ble_eq_true rfl) (w3_2 _ _ _)) ?_; refine S_val rfl rfl (Y_build (und rfl) (siz rfl) (zer rfl) rfl rfl) ?_; refine S_val rfl rfl (Y_eqlA_f (eqg rfl) (und rfl) (und rfl) (siz rfl) rfl rfl (dl_length _ _ _) rfl (by assumption)) ?_; refine S_val rfl rfl (Y_pick_t rfl rfl) ?_; refine S_nx ?_; refine T_cond_false rfl ?_; refine T_skip ?_; refine X_seq ?_; refine T_sr ?_; refine S_allocA (zer rfl) rfl rfl fun _ => ?_; refine S_nx ?_; refine T_seq ?_; refine T_sr ?_; refine S_val rfl rfl (Y_loadAI 0 (und rfl) rfl rfl rfl (siz rfl) rfl) ?_; refine S_mv rfl rfl rfl ?_; refine S_nx ?_; refine T_block ?_)
      rename_i b4 b5
      refine T_loopE (α := Nat × List Int) (fun a => a = (0, [0, 0, 0]) ∨ a = (1, [(b : Int), 0, 0]))
        (fun a => [(0, v), (5, .pointer (some ⟨b5, 0, none⟩)), (24, .agg (ints .u64 (w3 b e m))), (25, .int .i64 a.1)])
        (fun a => [blk b5 (.cells (ints .u64 a.2) 53 (0, 0))])
        (fun a => 3 - a.1) (0, [0, 0, 0]) (.inl rfl) (by repeat (first | exact Env.sub_nil _ | (apply Env.sub_cons; rfl))) (Emb.one 1 rfl) ?_
      rintro _ (rfl | rfl)
      · refine T_sr ?_
        refine S_val rfl rfl (Y_lss_t rfl rfl (by decide)) ?_
        refine S_nx ?_
        refine T_seq ?_
        refine T_cond_true rfl ?_
        refine T_skip ?_
        refine X_seq ?_
        refine T_seq ?_
        refine T_block ?_
        refine T_sr ?_
        refine S_mv rfl rfl rfl ?_
        refine S_val rfl rfl (Y_indexP (und rfl) (siz rfl) (und rfl) rfl rfl rfl (nat_cast _) (Nat.le_of_ble_eq_true rfl) (w3_0 _ _ _)) ?_
        refine S_allocA (zer rfl) rfl rfl fun _ => ?_
        refine S_as rfl rfl rfl ?_
        refine S_storeAI 1 (siz rfl) rfl rfl rfl rfl (dl_length _ _ _) rfl ?_
        refine S_nx ?_
        refine T_sr ?_
        refine S_val rfl rfl (Y_loadAI 1 (und rfl) rfl rfl rfl (siz rfl) (dl_length _ _ _)) ?_
        refine S_callV rfl rfl (bod rfl) (fun w hs => s0 _) rfl rfl ?_
        refine S_mv rfl rfl rfl ?_
        refine S_val rfl rfl (Y_extract rfl rfl) ?_
        refine S_val rfl rfl (Y_extract rfl rfl) ?_
        refine S_as rfl rfl rfl ?_
        refine S_as rfl rfl rfl ?_
        refine S_nx ?_
        refine T_seq ?_
        refine T_sr ?_
        refine S_mv rfl rfl rfl ?_
        refine S_val rfl rfl (Y_not rfl rfl) ?_
        refine S_mv rfl rfl rfl ?_
        refine S_mv rfl rfl rfl ?_
        refine S_val rfl rfl (Y_gtr_f rfl rfl (by omega)) ?_
        refine S_val rfl rfl (Y_pick_f rfl rfl) ?_
        refine S_nx ?_
        refine T_cond_false rfl ?_
        refine T_skip ?_
        refine X_seq ?_
        refine T_region ?_
        refine S_mv rfl rfl rfl ?_
        refine S_mv rfl rfl rfl ?_
        refine S_val rfl rfl (Y_ixa (und rfl) (siz rfl) rfl rfl (nat_cast _) (Nat.le_of_ble_eq_true rfl)) ?_
        refine S_storeI 0 (siz rfl) rfl rfl rfl (Nat.le_of_ble_eq_true rfl) rfl rfl ?_
        refine S_nil ?_
        refine X_blk ?_
        refine X_seq ?_
        refine T_region ?_
        refine S_val rfl rfl (Y_addN rfl rfl (nat_cast _) (nat_lit' _) (Nat.le_of_ble_eq_true rfl)) ?_
        refine S_mv rfl rfl rfl ?_
        refine S_nil ?_
        refine X_loop ?_
        exact ⟨(1, [(b : Int), 0, 0]), .inr rfl, by dsimp only; omega, (by repeat (first | exact Env.sub_nil _ | (apply Env.sub_cons; rfl))), Emb.one 0 rfl⟩
      · refine T_sr ?_
        refine S_val rfl rfl (Y_lss_t rfl rfl (by omega)) ?_
        refine S_nx ?_
        refine T_seq ?_
        refine T_cond_true rfl ?_
        refine T_skip ?_
        refine X_seq ?_
        refine T_seq ?_
        refine T_block ?_
        refine T_sr ?_
        refine S_mv rfl rfl rfl ?_
        refine S_val rfl rfl (Y_indexP (und rfl) (siz rfl) (und rfl) rfl rfl rfl (nat_cast _) (Nat.le_of_ble_eq_true rfl) (w3_1 _ _ _)) ?_
        refine S_allocA (zer rfl) rfl rfl fun _ => ?_
        refine S_as rfl rfl rfl ?_
        refine S_storeAI 1 (siz rfl) rfl rfl rfl rfl (dl_length _ _ _) rfl ?_
        refine S_nx ?_
        refine T_sr ?_
        refine S_val rfl rfl (Y_loadAI 1 (und rfl) rfl rfl rfl (siz rfl) (dl_length _ _ _)) ?_
        refine S_callV rfl rfl (bod rfl) (fun w hs => s1 _) rfl rfl ?_
        first | (refine S_mv rfl rfl rfl ?_; refine S_val rfl rfl (Y_extract rfl rfl) ?_; refine S_val rfl rfl (Y_extract rfl rfl) ?_; refine S_as rfl rfl rfl ?_; refine S_as rfl rfl rfl ?_; refine S_nx ?_; refine T_seq ?_; refine T_sr ?_; refine S_mv rfl rfl rfl ?_; refine S_val rfl rfl (Y_not rfl rfl) ?_; refine S_mv rfl rfl rfl ?_; refine S_mv rfl rfl rfl ?_; refine S_val rfl rfl (Y_gtr_t rfl rfl (by omega)) ?_; refine S_val rfl rfl (Y_pick_f rfl rfl) ?_; refine S_nx ?_; refine T_cond_true rfl ?_; refine T_sr ?_; refine S_as rfl rfl rfl ?_; refine S_as rfl rfl rfl ?_; refine S_nx ?_; refine T_ret ?_; refine X_seq_ret ?_; refine X_blk_ret ?_; refine X_seq_ret ?_; refine X_loop_ret ?_; refine X_blk_ret ?_; refine X_seq_ret ?_) | (refine S_mv rfl rfl rfl ?_; refine S_val rfl rfl (Y_extract rfl rfl) ?_; refine S_val rfl rfl (Y_extract rfl rfl) ?_; refine S_as rfl rfl rfl ?_; refine S_as rfl rfl rfl ?_; refine S_nx ?_; refine T_seq ?_; refine T_sr ?_; refine S_mv rfl rfl rfl ?_; refine S_val rfl rfl (Y_not rfl rfl) ?_; refine S_mv rfl rfl rfl ?_; refine S_skip rfl rfl ?_; refine S_skip rfl rfl ?_; refine S_val rfl rfl (Y_pick_t rfl rfl) ?_; refine S_nx ?_; refine T_cond_true rfl ?_; refine T_sr ?_; refine S_as rfl rfl rfl ?_; refine S_as rfl rfl rfl ?_; refine S_nx ?_; refine T_ret ?_; refine X_seq_ret ?_; refine X_blk_ret ?_; refine X_seq_ret ?_; refine X_loop_ret ?_; refine X_blk_ret ?_; refine X_seq_ret ?_)
        ((first | refine X_fin_ret ?_ | refine X_fin ?_); exact ⟨[_, _], [], .cons (.tmp rfl) (.cons (.tmp rfl) .nil), Emb.nil _, rfl, rfl⟩)
  · have s0 := st b sb h0
    have s1 := st e se h1
    rcases hne with n1 | ⟨n1, n2⟩ <;> rcases st2 m sm h2 with ⟨g2, s2⟩ | s2 <;> clear hl sb se sm st st2 h2
    all_goals
      refine Fn_of (args := [v]) Tryd.func13 rfl Tryd.ntmps13 Tryd.results13 (by simp) ?_
      refine T_sr ?_
      refine S_as rfl rfl rfl ?_
      refine S_as rfl rfl rfl ?_
      refine S_nx ?_
      refine T_sr ?_
      refine S_mv rfl rfl rfl ?_
      refine S_callV rfl rfl (bod rfl) (fun w hs => lg _ (by first | exact hs.rowRd 0 rfl | exact hs.rowRd 1 rfl | exact hs.rowRd 2 rfl | exact hs.rowRd 3 rfl | exact hs.rowRd 4 rfl | exact hs.rowRd 5 rfl | exact hs.rowRd 6 rfl | exact hs.rowRd 7 rfl | exact hs.rowRd 8 rfl | exact hs.rowRd 9 rfl | exact hs.rowRd 10 rfl | exact hs.rowRd 11 rfl | exact hs.rowRd 12 rfl | exact hs.rowRd 13 rfl | exact Rd.st (by assumption) hs)) rfl rfl ?_
      first | (refine S_allocA (zer rfl) rfl rfl fun _ => ?_; refine S_storeAI 0 (siz rfl) rfl rfl rfl rfl rfl rfl ?_; refine S_nx ?_; refine T_seq ?_; refine T_sr ?_; refine S_val rfl rfl (Y_ixg (und rfl) (siz rfl) rfl rfl (nat_lit' _) (Nat.le_of_ble_eq_true rfl)) ?_; refine S_val rfl rfl (Y_loadPX 0 (und rfl) rfl rfl rfl (siz rfl) (Nat.le_of_ble_eq_true rfl) (w3_0 _ _ _)) ?_; refine S_val rfl rfl (Y_build (und rfl) (siz rfl) (zer rfl) rfl rfl) ?_; refine S_val rfl rfl (Y_eqlA_f (eqg rfl) (und rfl) (und rfl) (siz rfl) rfl rfl (dl_length _ _ _) rfl (by assumption)) ?_; refine S_mv rfl rfl rfl ?_; refine S_skip rfl rfl ?_; refine S_skip rfl rfl ?_; refine S_skip rfl rfl ?_; refine S_skip rfl rfl ?_; refine S_val rfl rfl (Y_pick_f rfl rfl) ?_; refine S_nx ?_; refine T_cond_false rfl ?_; refine T_skip ?_; refine X_seq ?_; refine T_sr ?_; refine S_allocA (zer rfl) rfl rfl fun _ => ?_; refine S_nx ?_; refine T_seq ?_; refine T_sr ?_; refine S_val rfl rfl (Y_loadAI 0 (und rfl) rfl rfl rfl (siz rfl) rfl) ?_; refine S_mv rfl rfl rfl ?_; refine S_nx ?_; refine T_block ?_) | (refine S_allocA (zer rfl) rfl rfl fun _ => ?_; refine S_storeAI 0 (siz rfl) rfl rfl rfl rfl rfl rfl ?_; refine S_nx ?_; refine T_seq ?_; refine T_sr ?_; refine S_val rfl rfl (Y_ixg (und rfl) (siz rfl) rfl rfl (nat_lit' _) (Nat.le_of_ble_eq_true rfl)) ?_; refine S_val rfl rfl (Y_loadPX 0 (und rfl) rfl rfl rfl (siz rfl) (Nat.le_of_ble_eq_true rfl) (w3_0 _ _ _)) ?_; refine S_val rfl rfl (Y_build (und rfl) (siz rfl) (zer rfl) rfl rfl) ?_; refine S_val rfl rfl (Y_eqlA_t (eqg rfl) (und rfl) (und rfl) (siz rfl) rfl rfl (dl_length _ _ _) (by assumption)) ?_; refine S_mv rfl rfl rfl ?_; refine S_val rfl rfl (Y_ixg (und rfl) (siz rfl) rfl rfl (nat_lit' _) (Nat.le_of_ble_eq_true rfl)) ?_; refine S_val rfl rfl (Y_loadPX 0 (und rfl) rfl rfl rfl (siz rfl) (Nat.le_of_ble_eq_true rfl) (w3_2 _ _ _)) ?_; refine S_val rfl rfl (Y_build (und rfl) (siz rfl) (zer rfl) rfl rfl) ?_; refine S_val rfl rfl (Y_eqlA_f (eqg rfl) (und rfl) (und rfl) (siz rfl) rfl rfl (dl_length _ _ _) rfl (by assumption)) ?_; refine S_val rfl rfl (Y_pick_t rfl rfl) ?_; refine S_nx ?_; refine T_cond_false rfl ?_; refine T_skip ?_; refine X_seq ?_; refine T_sr ?_; refine S_allocA (zer rfl) rfl rfl fun _ => ?_; refine S_nx ?_; refine T_seq ?_; refine T_sr ?_; refine S_val rfl rfl (Y_loadAI 0 (und rfl) rfl rfl rfl (siz rfl) rfl) ?_; refine S_mv rfl rfl rfl ?_; refine S_nx ?_; refine T_block ?_)
      rename_i b4 b5
      refine T_loopE (α := Nat × List Int) (fun a => a = (0, [0, 0, 0]) ∨ a = (1, [(b : Int), 0, 0]) ∨ a = (2, [(b : Int), (e : Int), 0]))
        (fun a => [(0, v), (5, .pointer (some ⟨b5, 0, none⟩)), (24, .agg (ints .u64 (w3 b e m))), (25, .int .i64 a.1)])
        (fun a => [blk b5 (.cells (ints .u64 a.2) 53 (0, 0))])
        (fun a => 3 - a.1) (0, [0, 0, 0]) (.inl rfl) (by repeat (first | exact Env.sub_nil _ | (apply Env.sub_cons; rfl))) (Emb.one 1 rfl) ?_
      rintro _ (rfl | rfl | rfl)
      · refine T_sr ?_
        refine S_val rfl rfl (Y_lss_t rfl rfl (by decide)) ?_
        refine S_nx ?_
        refine T_seq ?_
        refine T_cond_true rfl ?_
        refine T_skip ?_
        refine X_seq ?_
        refine T_seq ?_
        refine T_block ?_
        refine T_sr ?_
        refine S_mv rfl rfl rfl ?_
        refine S_val rfl rfl (Y_indexP (und rfl) (siz rfl) (und rfl) rfl rfl rfl (nat_cast _) (Nat.le_of_ble_eq_true rfl) (w3_0 _ _ _)) ?_
        refine S_allocA (zer rfl) rfl rfl fun _ => ?_
        refine S_as rfl rfl rfl ?_
        refine S_storeAI 1 (siz rfl) rfl rfl rfl rfl (dl_length _ _ _) rfl ?_
        refine S_nx ?_
        refine T_sr ?_
        refine S_val rfl rfl (Y_loadAI 1 (und rfl) rfl rfl rfl (siz rfl) (dl_length _ _ _)) ?_
        refine S_callV rfl rfl (bod rfl) (fun w hs => s0 _) rfl rfl ?_
        refine S_mv rfl rfl rfl ?_
        refine S_val rfl rfl (Y_extract rfl rfl) ?_
        refine S_val rfl rfl (Y_extract rfl rfl) ?_
        refine S_as rfl rfl rfl ?_
        refine S_as rfl rfl rfl ?_
        refine S_nx ?_
        refine T_seq ?_
        refine T_sr ?_
        refine S_mv rfl rfl rfl ?_
        refine S_val rfl rfl (Y_not rfl rfl) ?_
        refine S_mv rfl rfl rfl ?_
        refine S_mv rfl rfl rfl ?_
        refine S_val rfl rfl (Y_gtr_f rfl rfl (by omega)) ?_
        refine S_val rfl rfl (Y_pick_f rfl rfl) ?_
        refine S_nx ?_
        refine T_cond_false rfl ?_
        refine T_skip ?_
        refine X_seq ?_
        refine T_region ?_
        refine S_mv rfl rfl rfl ?_
        refine S_mv rfl rfl rfl ?_
        refine S_val rfl rfl (Y_ixa (und rfl) (siz rfl) rfl rfl (nat_cast _) (Nat.le_of_ble_eq_true rfl)) ?_
        refine S_storeI 0 (siz rfl) rfl rfl rfl (Nat.le_of_ble_eq_true rfl) rfl rfl ?_
        refine S_nil ?_
        refine X_blk ?_
        refine X_seq ?_
        refine T_region ?_
        refine S_val rfl rfl (Y_addN rfl rfl (nat_cast _) (nat_lit' _) (Nat.le_of_ble_eq_true rfl)) ?_
        refine S_mv rfl rfl rfl ?_
        refine S_nil ?_
        refine X_loop ?_
        exact ⟨(1, [(b : Int), 0, 0]), .inr (.inl rfl), by dsimp only; omega, (by repeat (first | exact Env.sub_nil _ | (apply Env.sub_cons; rfl))), Emb.one 0 rfl⟩
      · refine T_sr ?_
        refine S_val rfl rfl (Y_lss_t rfl rfl (by omega)) ?_
        refine S_nx ?_
        refine T_seq ?_
        refine T_cond_true rfl ?_
        refine T_skip ?_
        refine X_seq ?_
        refine T_seq ?_
        refine T_block ?_
        refine T_sr ?_
        refine S_mv rfl rfl rfl ?_
        refine S_val rfl rfl (Y_indexP (und rfl) (siz rfl) (und rfl) rfl rfl rfl (nat_cast _) (Nat.le_of_ble_eq_true rfl) (w3_1 _ _ _)) ?_
        refine S_allocA (zer rfl) rfl rfl fun _ => ?_
        refine S_as rfl rfl rfl ?_
        refine S_storeAI 1 (siz rfl) rfl rfl rfl rfl (dl_length _ _ _) rfl ?_
        refine S_nx ?_
        refine T_sr ?_
        refine S_val rfl rfl (Y_loadAI 1 (und rfl) rfl rfl rfl (siz rfl) (dl_length _ _ _)) ?_
        refine S_callV rfl rfl (bod rfl) (fun w hs => s1 _) rfl rfl ?_
        refine S_mv rfl rfl rfl ?_
        refine S_val rfl rfl (Y_extract rfl rfl) ?_
        refine S_val rfl rfl (Y_extract rfl rfl) ?_
        refine S_as rfl rfl rfl ?_
        refine S_as rfl rfl rfl ?_
        refine S_nx ?_
        refine T_seq ?_
        refine T_sr ?_
        refine S_mv rfl rfl rfl ?_
        refine S_val rfl rfl (Y_not rfl rfl) ?_
        refine S_mv rfl rfl rfl ?_
        refine S_mv rfl rfl rfl ?_
        refine S_val rfl rfl (Y_gtr_f rfl rfl (by omega)) ?_
        refine S_val rfl rfl (Y_pick_f rfl rfl) ?_
        refine S_nx ?_
        refine T_cond_false rfl ?_
        refine T_skip ?_
        refine X_seq ?_
        refine T_region ?_
        refine S_mv rfl rfl rfl ?_
        refine S_mv rfl rfl rfl ?_
        refine S_val rfl rfl (Y_ixa (und rfl) (siz rfl) rfl rfl (nat_cast _) (Nat.le_of_ble_eq_true rfl)) ?_
        refine S_storeI 0 (siz rfl) rfl rfl rfl (Nat.le_of_ble_eq_true rfl) rfl rfl ?_
        refine S_nil ?_
        refine X_blk ?_
        refine X_seq ?_
        refine T_region ?_
        refine S_val rfl rfl (Y_addN rfl rfl (nat_cast _) (nat_lit' _) (Nat.le_of_ble_eq_true rfl)) ?_
        refine S_mv rfl rfl rfl ?_
        refine S_nil ?_
        refine X_loop ?_
        exact ⟨(2, [(b : Int), (e : Int), 0]), .inr (.inr rfl), by dsimp only; omega, (by repeat (first | exact Env.sub_nil _ | (apply Env.sub_cons; rfl))), Emb.one 0 rfl⟩
      · refine T_sr ?_
        refine S_val rfl rfl (Y_lss_t rfl rfl (by omega)) ?_
        refine S_nx ?_
        refine T_seq ?_
        refine T_cond_true rfl ?_
        refine T_skip ?_
        refine X_seq ?_
        refine T_seq ?_
        refine T_block ?_
        refine T_sr ?_
        refine S_mv rfl rfl rfl ?_
        refine S_val rfl rfl (Y_indexP (und rfl) (siz rfl) (und rfl) rfl rfl rfl (nat_cast _) (Nat.le_of_ble_eq_true rfl) (w3_2 _ _ _)) ?_
        refine S_allocA (zer rfl) rfl rfl fun _ => ?_
        refine S_as rfl rfl rfl ?_
        refine S_storeAI 1 (siz rfl) rfl rfl rfl rfl (dl_length _ _ _) rfl ?_
        refine S_nx ?_
        refine T_sr ?_
        refine S_val rfl rfl (Y_loadAI 1 (und rfl) rfl rfl rfl (siz rfl) (dl_length _ _ _)) ?_
        refine S_callV rfl rfl (bod rfl) (fun w hs => s2 _) rfl rfl ?_
        first | (refine S_mv rfl rfl rfl ?_; refine S_val rfl rfl (Y_extract rfl rfl) ?_; refine S_val rfl rfl (Y_extract rfl rfl) ?_; refine S_as rfl rfl rfl ?_; refine S_as rfl rfl rfl ?_; refine S_nx ?_; refine T_seq ?_; refine T_sr ?_; refine S_mv rfl rfl rfl ?_; refine S_val rfl rfl (Y_not rfl rfl) ?_; refine S_mv rfl rfl rfl ?_; refine S_mv rfl rfl rfl ?_; refine S_val rfl rfl (Y_gtr_t rfl rfl (by omega)) ?_; refine S_val rfl rfl (Y_pick_f rfl rfl) ?_; refine S_nx ?_; refine T_cond_true rfl ?_; refine T_sr ?_; refine S_as rfl rfl rfl ?_; refine S_as rfl rfl rfl ?_; refine S_nx ?_; refine T_ret ?_; refine X_seq_ret ?_; refine X_blk_ret ?_; refine X_seq_ret ?_; refine X_loop_ret ?_; refine X_blk_ret ?_; refine X_seq_ret ?_) | (refine S_mv rfl rfl rfl ?_; refine S_val rfl rfl (Y_extract rfl rfl) ?_; refine S_val rfl rfl (Y_extract rfl rfl) ?_; refine S_as rfl rfl rfl ?_; refine S_as rfl rfl rfl ?_; refine S_nx ?_; refine T_seq ?_; refine T_sr ?_; refine S_mv rfl rfl rfl ?_; refine S_val rfl rfl (Y_not rfl rfl) ?_; refine S_mv rfl rfl rfl ?_; refine S_skip rfl rfl ?_; refine S_skip rfl rfl ?_; refine S_val rfl rfl (Y_pick_t rfl rfl) ?_; refine S_nx ?_; refine T_cond_true rfl ?_; refine T_sr ?_; refine S_as rfl rfl rfl ?_; refine S_as rfl rfl rfl ?_; refine S_nx ?_; refine T_ret ?_; refine X_seq_ret ?_; refine X_blk_ret ?_; refine X_seq_ret ?_; refine X_loop_ret ?_; refine X_blk_ret ?_; refine X_seq_ret ?_)
        ((first | refine X_fin_ret ?_ | refine X_fin ?_); exact ⟨[_, _], [], .cons (.tmp rfl) (.cons (.tmp rfl) .nil), Emb.nil _, rfl, rfl⟩)
theorem mrun_pow (n x : Nat) (hx : x < 256 ^ n) (hn : n ≤ 1000000) (v : Value) (w : World) (hr : Rd w v .u8 (bel n x)) (h : ¬ (lenN n x 0 = 0 ∧ lenN n x 2 = 0)) (hb : lenN n x 0 ≤ 64) (he : lenN n x 1 ≤ 64) (hm : lenN n x 2 ≤ 64) :
    Fn Tryd.prog 13 #[v] w (PowR (lenN n x 2) (runN n x)) := by
  have lg := fun w h => mlengths_any n x hx hn v w h
  have w3l := w3_length (lenN n x 0) (lenN n x 1) (lenN n x 2)
  have hne := ne_of_len (lenN_lt n x 0) (lenN_lt n x 2) h
  have s0 := small_any _ (lenN_lt n x 0)
  have s1 := small_any _ (lenN_lt n x 1)
  have s2 := small_any _ (lenN_lt n x 2)
  rw [if_pos (by omega), decide_eq_true (by omega)] at s0 s1 s2
  have hrd : runN n x = powN (inN n x 96 (lenN n x 0)) (inN n x (96 + lenN n x 0) (lenN n x 1)) (inN n x (96 + lenN n x 0 + lenN n x 1) (lenN n x 2)) := rfl
  have t0 := fun w h => mpart_any n x 96 (lenN n x 0) hx hn (by omega) (by omega) v w h
  have t1 := fun w h => mpart_any n x (96 + lenN n x 0) (lenN n x 1) hx hn (by omega) (by omega) v w h
  have t2 := fun w h => mpart_any n x (96 + lenN n x 0 + lenN n x 1) (lenN n x 2) hx hn (by omega) (by omega) v w h
  simp only [inN_bel] at t0 t1 t2
  have l0 := inN_lt n x 96 (lenN n x 0)
  have l1 := inN_lt n x (96 + lenN n x 0) (lenN n x 1)
  have l2 := inN_lt n x (96 + lenN n x 0 + lenN n x 1) (lenN n x 2)
  have pw := fun v0 v1 v2 w h0 h1 h2 => mpow_any _ _ _ _ _ _ l0 l1 l2 (by omega) (by omega) (by omega) v0 v1 v2 w h0 h1 h2
  rw [← hrd] at pw
  clear hrd l0 l1 l2 h
  generalize runN n x = z at *
  generalize inN n x 96 (lenN n x 0) = B at *
  generalize inN n x (96 + lenN n x 0) (lenN n x 1) = X at *
  generalize inN n x (96 + lenN n x 0 + lenN n x 1) (lenN n x 2) = M at *
  generalize lenN n x 0 = b at *
  generalize lenN n x 1 = e at *
  generalize lenN n x 2 = m at *
  rcases hne with n1 | ⟨n1, n2⟩
  all_goals
    refine Fn_of (args := [v]) Tryd.func13 rfl Tryd.ntmps13 Tryd.results13 (by simp) ?_
    refine T_sr ?_
    refine S_as rfl rfl rfl ?_
    refine S_as rfl rfl rfl ?_
    refine S_nx ?_
    refine T_sr ?_
    refine S_mv rfl rfl rfl ?_
    refine S_callV rfl rfl (bod rfl) (fun w hs => lg _ (by first | exact hs.rowRd 0 rfl | exact hs.rowRd 1 rfl | exact hs.rowRd 2 rfl | exact hs.rowRd 3 rfl | exact hs.rowRd 4 rfl | exact hs.rowRd 5 rfl | exact hs.rowRd 6 rfl | exact hs.rowRd 7 rfl | exact hs.rowRd 8 rfl | exact hs.rowRd 9 rfl | exact hs.rowRd 10 rfl | exact hs.rowRd 11 rfl | exact hs.rowRd 12 rfl | exact hs.rowRd 13 rfl | exact Rd.st (by assumption) hs)) rfl rfl ?_
    first | (refine S_allocA (zer rfl) rfl rfl fun _ => ?_; refine S_storeAI 0 (siz rfl) rfl rfl rfl rfl rfl rfl ?_; refine S_nx ?_; refine T_seq ?_; refine T_sr ?_; refine S_val rfl rfl (Y_ixg (und rfl) (siz rfl) rfl rfl (nat_lit' _) (Nat.le_of_ble_eq_true rfl)) ?_; refine S_val rfl rfl (Y_loadPX 0 (und rfl) rfl rfl rfl (siz rfl) (Nat.le_of_ble_eq_true rfl) (w3_0 _ _ _)) ?_; refine S_val rfl rfl (Y_build (und rfl) (siz rfl) (zer rfl) rfl rfl) ?_; refine S_val rfl rfl (Y_eqlA_f (eqg rfl) (und rfl) (und rfl) (siz rfl) rfl rfl (dl_length _ _ _) rfl (by assumption)) ?_; refine S_mv rfl rfl rfl ?_; refine S_skip rfl rfl ?_; refine S_skip rfl rfl ?_; refine S_skip rfl rfl ?_; refine S_skip rfl rfl ?_; refine S_val rfl rfl (Y_pick_f rfl rfl) ?_; refine S_nx ?_; refine T_cond_false rfl ?_; refine T_skip ?_; refine X_seq ?_; refine T_sr ?_; refine S_allocA (zer rfl) rfl rfl fun _ => ?_; refine S_nx ?_; refine T_seq ?_; refine T_sr ?_; refine S_val rfl rfl (Y_loadAI 0 (und rfl) rfl rfl rfl (siz rfl) rfl) ?_; refine S_mv rfl rfl rfl ?_; refine S_nx ?_; refine T_block ?_) | (refine S_allocA (zer rfl) rfl rfl fun _ => ?_; refine S_storeAI 0 (siz rfl) rfl rfl rfl rfl rfl rfl ?_; refine S_nx ?_; refine T_seq ?_; refine T_sr ?_; refine S_val rfl rfl (Y_ixg (und rfl) (siz rfl) rfl rfl (nat_lit' _) (Nat.le_of_ble_eq_true rfl)) ?_; refine S_val rfl rfl (Y_loadPX 0 (und rfl) rfl rfl rfl (siz rfl) (Nat.le_of_ble_eq_true rfl) (w3_0 _ _ _)) ?_; refine S_val rfl rfl (Y_build (und rfl) (siz rfl) (zer rfl) rfl rfl) ?_; refine S_val rfl rfl (Y_eqlA_t (eqg rfl) (und rfl) (und rfl) (siz rfl) rfl rfl (dl_length _ _ _) (by assumption)) ?_; refine S_mv rfl rfl rfl ?_; refine S_val rfl rfl (Y_ixg (und rfl) (siz rfl) rfl rfl (nat_lit' _) (Nat.le_of_ble_eq_true rfl)) ?_; refine S_val rfl rfl (Y_loadPX 0 (und rfl) rfl rfl rfl (siz rfl) (Nat.le_of_ble_eq_true rfl) (w3_2 _ _ _)) ?_; refine S_val rfl rfl (Y_build (und rfl) (siz rfl) (zer rfl) rfl rfl) ?_; refine S_val rfl rfl (Y_eqlA_f (eqg rfl) (und rfl) (und rfl) (siz rfl) rfl rfl (dl_length _ _ _) rfl (by assumption)) ?_; refine S_val rfl rfl (Y_pick_t rfl rfl) ?_; refine S_nx ?_; refine T_cond_false rfl ?_; refine T_skip ?_; refine X_seq ?_; refine T_sr ?_; refine S_allocA (zer rfl) rfl rfl fun _ => ?_; refine S_nx ?_; refine T_seq ?_; refine T_sr ?_; refine S_val rfl rfl (Y_loadAI 0 (und rfl) rfl rfl rfl (siz rfl) rfl) ?_; refine S_mv rfl rfl rfl ?_; refine S_nx ?_; refine T_block ?_)
    rename_i b4 b5
    refine T_loopE (α := Nat × List Int) (fun a => a = (0, [0, 0, 0]) ∨ a = (1, [(b : Int), 0, 0]) ∨ a = (2, [(b : Int), (e : Int), 0]) ∨ a = (3, [(b : Int), (e : Int), (m : Int)]))
      (fun a => [(0, v), (5, .pointer (some ⟨b5, 0, none⟩)), (24, .agg (ints .u64 (w3 b e m))), (25, .int .i64 a.1)])
      (fun a => [blk b5 (.cells (ints .u64 a.2) 53 (0, 0))])
      (fun a => 3 - a.1) (0, [0, 0, 0]) (.inl rfl) (by repeat (first | exact Env.sub_nil _ | (apply Env.sub_cons; rfl))) (Emb.one 1 rfl) ?_
    rintro _ (rfl | rfl | rfl | rfl)
    · refine T_sr ?_
      refine S_val rfl rfl (Y_lss_t rfl rfl (by decide)) ?_
      refine S_nx ?_
      refine T_seq ?_
      refine T_cond_true rfl ?_
      refine T_skip ?_
      refine X_seq ?_
      refine T_seq ?_
      refine T_block ?_
      refine T_sr ?_
      refine S_mv rfl rfl rfl ?_
      refine S_val rfl rfl (Y_indexP (und rfl) (siz rfl) (und rfl) rfl rfl rfl (nat_cast _) (Nat.le_of_ble_eq_true rfl) (w3_0 _ _ _)) ?_
      refine S_allocA (zer rfl) rfl rfl fun _ => ?_
      refine S_as rfl rfl rfl ?_
      refine S_storeAI 1 (siz rfl) rfl rfl rfl rfl (dl_length _ _ _) rfl ?_
      refine S_nx ?_
      refine T_sr ?_
      refine S_val rfl rfl (Y_loadAI 1 (und rfl) rfl rfl rfl (siz rfl) (dl_length _ _ _)) ?_
      refine S_callV rfl rfl (bod rfl) (fun w hs => s0 _) rfl rfl ?_
      refine S_mv rfl rfl rfl ?_
      refine S_val rfl rfl (Y_extract rfl rfl) ?_
      refine S_val rfl rfl (Y_extract rfl rfl) ?_
      refine S_as rfl rfl rfl ?_
      refine S_as rfl rfl rfl ?_
      refine S_nx ?_
      refine T_seq ?_
      refine T_sr ?_
      refine S_mv rfl rfl rfl ?_
      refine S_val rfl rfl (Y_not rfl rfl) ?_
      refine S_mv rfl rfl rfl ?_
      refine S_mv rfl rfl rfl ?_
      refine S_val rfl rfl (Y_gtr_f rfl rfl (by omega)) ?_
      refine S_val rfl rfl (Y_pick_f rfl rfl) ?_
      refine S_nx ?_
      refine T_cond_false rfl ?_
      refine T_skip ?_
      refine X_seq ?_
      refine T_region ?_
      refine S_mv rfl rfl rfl ?_
      refine S_mv rfl rfl rfl ?_
      refine S_val rfl rfl (Y_ixa (und rfl) (siz rfl) rfl rfl (nat_cast _) (Nat.le_of_ble_eq_true rfl)) ?_
      refine S_storeI 0 (siz rfl) rfl rfl rfl (Nat.le_of_ble_eq_true rfl) rfl rfl ?_
      refine S_nil ?_
      refine X_blk ?_
      refine X_seq ?_
      refine T_region ?_
      refine S_val rfl rfl (Y_addN rfl rfl (nat_cast _) (nat_lit' _) (Nat.le_of_ble_eq_true rfl)) ?_
      refine S_mv rfl rfl rfl ?_
      refine S_nil ?_
      refine X_loop ?_
      exact ⟨(1, [(b : Int), 0, 0]), .inr (.inl rfl), by dsimp only; omega, (by repeat (first | exact Env.sub_nil _ | (apply Env.sub_cons; rfl))), Emb.one 0 rfl⟩
    · refine T_sr ?_
      refine S_val rfl rfl (Y_lss_t rfl rfl (by omega)) ?_
      refine S_nx ?_
      refine T_seq ?_
      refine T_cond_true rfl ?_
      refine T_skip ?_
      refine X_seq ?_
      refine T_seq ?_
      refine T_block ?_
      refine T_sr ?_
      refine S_mv rfl rfl rfl ?_
      refine S_val rfl rfl (Y_indexP (und rfl) (siz rfl) (und rfl) rfl rfl rfl (nat_cast _) (Nat.le_of_ble_eq_true rfl) (w3_1 _ _ _)) ?_
      refine S_allocA (zer rfl) rfl rfl fun _ => ?_
      refine S_as rfl rfl rfl ?_
      refine S_storeAI 1 (siz rfl) rfl rfl rfl rfl (dl_length _ _ _) rfl ?_
      refine S_nx ?_
      refine T_sr ?_
      refine S_val rfl rfl (Y_loadAI 1 (und rfl) rfl rfl rfl (siz rfl) (dl_length _ _ _)) ?_
      refine S_callV rfl rfl (bod rfl) (fun w hs => s1 _) rfl rfl ?_
      refine S_mv rfl rfl rfl ?_
      refine S_val rfl rfl (Y_extract rfl rfl) ?_
      refine S_val rfl rfl (Y_extract rfl rfl) ?_
      refine S_as rfl rfl rfl ?_
      refine S_as rfl rfl rfl ?_
      refine S_nx ?_
      refine T_seq ?_
      refine T_sr ?_
      refine S_mv rfl rfl rfl ?_
      refine S_val rfl rfl (Y_not rfl rfl) ?_
      refine S_mv rfl rfl rfl ?_
      refine S_mv rfl rfl rfl ?_
      refine S_val rfl rfl (Y_gtr_f rfl rfl (by omega)) ?_
      refine S_val rfl rfl (Y_pick_f rfl rfl) ?_
      refine S_nx ?_
      refine T_cond_false rfl ?_
      refine T_skip ?_
      refine X_seq ?_
      refine T_region ?_
      refine S_mv rfl rfl rfl ?_
      refine S_mv rfl rfl rfl ?_
      refine S_val rfl rfl (Y_ixa (und rfl) (siz rfl) rfl rfl (nat_cast _) (Nat.le_of_ble_eq_true rfl)) ?_
      refine S_storeI 0 (siz rfl) rfl rfl rfl (Nat.le_of_ble_eq_true rfl) rfl rfl ?_
      refine S_nil ?_
      refine X_blk ?_
      refine X_seq ?_
      refine T_region ?_
      refine S_val rfl rfl (Y_addN rfl rfl (nat_cast _) (nat_lit' _) (Nat.le_of_ble_eq_true rfl)) ?_
      refine S_mv rfl rfl rfl ?_
      refine S_nil ?_
      refine X_loop ?_
      exact ⟨(2, [(b : Int), (e : Int), 0]), .inr (.inr (.inl rfl)), by dsimp only; omega, (by repeat (first | exact Env.sub_nil _ | (apply Env.sub_cons; rfl))), Emb.one 0 rfl⟩
    · refine T_sr ?_
      refine S_val rfl rfl (Y_lss_t rfl rfl (by omega)) ?_
      refine S_nx ?_
      refine T_seq ?_
      refine T_cond_true rfl ?_
      refine T_skip ?_
      refine X_seq ?_
      refine T_seq ?_
      refine T_block ?_
      refine T_sr ?_
      refine S_mv rfl rfl rfl ?_
      refine S_val rfl rfl (Y_indexP (und rfl) (siz rfl) (und rfl) rfl rfl rfl (nat_cast _) (Nat.le_of_ble_eq_true rfl) (w3_2 _ _ _)) ?_
      refine S_allocA (zer rfl) rfl rfl fun _ => ?_
      refine S_as rfl rfl rfl ?_
      refine S_storeAI 1 (siz rfl) rfl rfl rfl rfl (dl_length _ _ _) rfl ?_
      refine S_nx ?_
      refine T_sr ?_
      refine S_val rfl rfl (Y_loadAI 1 (und rfl) rfl rfl rfl (siz rfl) (dl_length _ _ _)) ?_
      refine S_callV rfl rfl (bod rfl) (fun w hs => s2 _) rfl rfl ?_
      refine S_mv rfl rfl rfl ?_
      refine S_val rfl rfl (Y_extract rfl rfl) ?_
      refine S_val rfl rfl (Y_extract rfl rfl) ?_
      refine S_as rfl rfl rfl ?_
      refine S_as rfl rfl rfl ?_
      refine S_nx ?_
      refine T_seq ?_
      refine T_sr ?_
      refine S_mv rfl rfl rfl ?_
      refine S_val rfl rfl (Y_not rfl rfl) ?_
      refine S_mv rfl rfl rfl ?_
      refine S_mv rfl rfl rfl ?_
      refine S_val rfl rfl (Y_gtr_f rfl rfl (by omega)) ?_
      refine S_val rfl rfl (Y_pick_f rfl rfl) ?_
      refine S_nx ?_
      refine T_cond_false rfl ?_
      refine T_skip ?_
      refine X_seq ?_
      refine T_region ?_
      refine S_mv rfl rfl rfl ?_
      refine S_mv rfl rfl rfl ?_
      refine S_val rfl rfl (Y_ixa (und rfl) (siz rfl) rfl rfl (nat_cast _) (Nat.le_of_ble_eq_true rfl)) ?_
      refine S_storeI 0 (siz rfl) rfl rfl rfl (Nat.le_of_ble_eq_true rfl) rfl rfl ?_
      refine S_nil ?_
      refine X_blk ?_
      refine X_seq ?_
      refine T_region ?_
      refine S_val rfl rfl (Y_addN rfl rfl (nat_cast _) (nat_lit' _) (Nat.le_of_ble_eq_true rfl)) ?_
      refine S_mv rfl rfl rfl ?_
      refine S_nil ?_
      refine X_loop ?_
      exact ⟨(3, [(b : Int), (e : Int), (m : Int)]), .inr (.inr (.inr rfl)), by dsimp only; omega, (by repeat (first | exact Env.sub_nil _ | (apply Env.sub_cons; rfl))), Emb.one 0 rfl⟩
    · refine T_sr ?_
      refine S_val rfl rfl (Y_lss_f rfl rfl (by omega)) ?_
      refine S_nx ?_
      refine T_seq ?_
      refine T_cond_false rfl ?_
      refine T_exit ?_
      refine X_seq_exit ?_
      refine X_loop_exit ?_
      refine X_blk_hit rfl ?_
      refine X_seq ?_
      refine T_sr ?_
      refine S_mv rfl rfl rfl ?_
      refine S_val rfl rfl (Y_ixa (und rfl) (siz rfl) rfl rfl (nat_lit' _) (Nat.le_of_ble_eq_true rfl)) ?_
      refine S_val rfl rfl (Y_loadI 0 (und rfl) rfl rfl rfl rfl) ?_
      refine S_callR _ rfl rfl (bod rfl) (fun w hs => t0 _ (by first | exact hs.rowRd 0 rfl | exact hs.rowRd 1 rfl | exact hs.rowRd 2 rfl | exact hs.rowRd 3 rfl | exact hs.rowRd 4 rfl | exact hs.rowRd 5 rfl | exact hs.rowRd 6 rfl | exact hs.rowRd 7 rfl | exact hs.rowRd 8 rfl | exact hs.rowRd 9 rfl | exact hs.rowRd 10 rfl | exact hs.rowRd 11 rfl | exact hs.rowRd 12 rfl | exact hs.rowRd 13 rfl | exact Rd.st (by assumption) hs)) rfl rfl fun _ => ?_
      refine S_as rfl rfl rfl ?_
      refine S_nx ?_
      refine T_sr ?_
      refine S_mv rfl rfl rfl ?_
      refine S_val rfl rfl (Y_ixa (und rfl) (siz rfl) rfl rfl (nat_lit' _) (Nat.le_of_ble_eq_true rfl)) ?_
      refine S_val rfl rfl (Y_loadI 0 (und rfl) rfl rfl rfl rfl) ?_
      refine S_val rfl rfl (Y_addU rfl rfl (nat_lit' _) (nat_cast _) rfl (by simp only [IntKind.bits]; omega)) ?_
      refine S_val rfl rfl (Y_ixa (und rfl) (siz rfl) rfl rfl (nat_lit' _) (Nat.le_of_ble_eq_true rfl)) ?_
      refine S_val rfl rfl (Y_loadI 0 (und rfl) rfl rfl rfl rfl) ?_
      refine S_callR _ rfl rfl (bod rfl) (fun w hs => t1 _ (by first | exact hs.rowRd 0 rfl | exact hs.rowRd 1 rfl | exact hs.rowRd 2 rfl | exact hs.rowRd 3 rfl | exact hs.rowRd 4 rfl | exact hs.rowRd 5 rfl | exact hs.rowRd 6 rfl | exact hs.rowRd 7 rfl | exact hs.rowRd 8 rfl | exact hs.rowRd 9 rfl | exact hs.rowRd 10 rfl | exact hs.rowRd 11 rfl | exact hs.rowRd 12 rfl | exact hs.rowRd 13 rfl | exact Rd.st (by assumption) hs)) rfl rfl fun _ => ?_
      refine S_as rfl rfl rfl ?_
      refine S_nx ?_
      refine T_sr ?_
      refine S_mv rfl rfl rfl ?_
      refine S_mv rfl rfl rfl ?_
      refine S_mv rfl rfl rfl ?_
      refine S_val rfl rfl (Y_ixa (und rfl) (siz rfl) rfl rfl (nat_lit' _) (Nat.le_of_ble_eq_true rfl)) ?_
      refine S_val rfl rfl (Y_loadI 0 (und rfl) rfl rfl rfl rfl) ?_
      refine S_val rfl rfl (Y_addU rfl rfl (nat_lit' _) (nat_cast _) rfl (by simp only [IntKind.bits]; omega)) ?_
      refine S_val rfl rfl (Y_ixa (und rfl) (siz rfl) rfl rfl (nat_lit' _) (Nat.le_of_ble_eq_true rfl)) ?_
      refine S_val rfl rfl (Y_loadI 0 (und rfl) rfl rfl rfl rfl) ?_
      refine S_val rfl rfl (Y_addU rfl rfl (nat_cast _) (nat_cast _) rfl (by simp only [IntKind.bits]; omega)) ?_
      refine S_val rfl rfl (Y_ixa (und rfl) (siz rfl) rfl rfl (nat_lit' _) (Nat.le_of_ble_eq_true rfl)) ?_
      refine S_val rfl rfl (Y_loadI 0 (und rfl) rfl rfl rfl rfl) ?_
      refine S_callR _ rfl rfl (bod rfl) (fun w hs => t2 _ (by first | exact hs.rowRd 0 rfl | exact hs.rowRd 1 rfl | exact hs.rowRd 2 rfl | exact hs.rowRd 3 rfl | exact hs.rowRd 4 rfl | exact hs.rowRd 5 rfl | exact hs.rowRd 6 rfl | exact hs.rowRd 7 rfl | exact hs.rowRd 8 rfl | exact hs.rowRd 9 rfl | exact hs.rowRd 10 rfl | exact hs.rowRd 11 rfl | exact hs.rowRd 12 rfl | exact hs.rowRd 13 rfl | exact Rd.st (by assumption) hs)) rfl rfl fun _ => ?_
      skip
      refine S_call _ rfl rfl (bod rfl) (fun w hs => pw _ _ _ _ (hs.rowRd 1 rfl) (hs.rowRd 2 rfl) (hs.rowRd 3 rfl)) rfl rfl ?_
      rintro _ _ ⟨u, rfl, rfl⟩
      refine S_val rfl rfl (Y_extract rfl rfl) ?_
      refine S_val rfl rfl (Y_extract rfl rfl) ?_
      refine S_as rfl rfl rfl ?_
      refine S_as rfl rfl rfl ?_
      refine S_nx ?_
      refine T_ret ?_
      ((first | refine X_fin_ret ?_ | refine X_fin ?_); exact ⟨[_, _], [_], .cons (.tmp rfl) (.cons (.tmp rfl) .nil), Emb.one 4 rfl, ⟨_, rfl, rfl⟩⟩)
end Go.Proofs.YtjolmphkmfbpbaaDoor
/- A slice, compared with none. -/
namespace Go.Proofs.YtjolmphkmfbpbaaDoor
open Go.RowKit
set_option maxRecDepth 20000
theorem run_equal_ns {P : Program} {t e : TypeId} (ht : P.underlying t = some (.slice e)) (b : Option Addr) (n c d : Nat) (w : World) : (Op.equalIn (d + 1) t (.slice b n c) (.slice none 0 0)).run P w = .ok b.isNone w := by
  simp only [Op.equalIn, Sem.run_bind, run_underlying ht, Result.andThen_ok]
  cases b <;> rfl
theorem guard_ns (op : BinOp) (t : TypeId) (x y : Operand) (b : Option Addr) (n c : Nat) (P : Program) (w : World) : (eqGuard op t x y (.slice b n c) (.slice none 0 0)).run P w = .ok () w := by cases op <;> rfl
section
variable {C : Ctx} {E : Env} {L : Hp} {dst : Option Tmp} {ty : TypeId} {pos : String} {af : Array Edge} {g : Option (Nat × Bool)} {x y : Operand} {t u e : TypeId} {b : Option Addr} {n c : Nat}
theorem Y_eqlN (ht : C.P.underlying t = some (.slice e)) (hx : ev E x = some (.slice b n c)) (hy : ev E y = some (.slice none 0 0)) : Yv C E L ⟨dst, .binOp .eql t x y u, ty, pos, af, g⟩ (.bool b.isNone) := by
  refine ⟨fun a w h _ => ?_⟩
  have := run_equal_ns ht b n c 9999 w
  simp only [execOp, h.eval hx, h.eval hy, Sem.run_bind, guard_ns, Result.andThen_ok, binOp, Op.equal, Op.maxDepth]
  rw [this]
  rfl
end
end Go.Proofs.YtjolmphkmfbpbaaDoor
/- Packages mem (Words), prec (Price), slices (Clone) and their references. -/
namespace Go.Proofs.YtjolmphkmfbpbaaDoor
open Go.RowKit
set_option maxRecDepth 20000
set_option maxHeartbeats 40000000
theorem clone_any (l : List Int) (hl : l.length ≤ 1000000) (v : Value) (w : World) (hr : Rd w v .u8 l) : Fn Tryd.prog 12 #[v] w fun u N => N = [row .u8 l u] := by
  obtain ⟨a, c, rfl, hc, h3⟩ := hr.out
  cases a with
  | none =>
    have hl0 : l = [] := by
      rcases h3 with h | ⟨_, _, _, _, _, h, _⟩
      · exact h
      · cases h
    subst hl0
    refine Fn_of (args := [.slice none 0 c]) Tryd.func12 rfl Tryd.ntmps12 Tryd.results12 (by simp) ?_
    refine T_nilrow .u8 ?_
    refine T_sr ?_
    refine S_as rfl rfl rfl ?_
    refine S_nx ?_
    refine T_seq ?_
    refine T_sr ?_
    refine S_mv rfl rfl rfl ?_
    refine S_val rfl rfl (Y_eqlN (und rfl) rfl rfl) ?_
    refine S_nx ?_
    refine T_cond_true rfl ?_
    refine T_sr ?_
    refine S_as rfl rfl rfl ?_
    refine S_nx ?_
    refine T_ret ?_
    refine X_seq_ret ?_
    ((first | refine X_fin_ret ?_ | refine X_fin ?_); exact ⟨[_], [_], .cons (.tmp rfl) .nil, Emb.one 0 rfl, rfl⟩)
  | some a =>
    clear h3
    refine Fn_of (args := [.slice (some a) l.length c]) Tryd.func12 rfl Tryd.ntmps12 Tryd.results12 (by simp) ?_
    refine T_sr ?_
    refine S_as rfl rfl rfl ?_
    refine S_nx ?_
    refine T_seq ?_
    refine T_sr ?_
    refine S_mv rfl rfl rfl ?_
    refine S_val rfl rfl (Y_eqlN (und rfl) rfl rfl) ?_
    refine S_nx ?_
    refine T_cond_false rfl ?_
    refine T_skip ?_
    refine X_seq ?_
    refine T_sr ?_
    refine S_sliceR (und rfl) (siz rfl) (zer rfl) rfl rfl rfl rfl fun _ => ?_
    refine S_mv rfl rfl rfl ?_
    refine S_append 0 rfl (und rfl) (und rfl) (siz rfl) (byt rfl) (zer rfl) rfl rfl rfl (fun _ hs => Rd.st (by assumption) hs) (by simp; omega) rfl rfl rfl fun _ => ?_
    refine S_as rfl rfl rfl ?_
    refine S_nx ?_
    refine T_ret ?_
    ((first | refine X_fin_ret ?_ | refine X_fin ?_); exact ⟨[_], [_], .cons (.tmp rfl) .nil, Emb.one 0 rfl, rfl⟩)
theorem mwords_any (n : Nat) (hn : n ≤ 1000000) (w : World) : Fn Tryd.prog 18 #[.int .u64 n] w fun u N => u = .int .u64 (((n + 31) / 32 : Nat) : Int) ∧ N = [] := by
  by_cases h : n % 32 = 0
  · refine Fn_of (args := [.int .u64 n]) Tryd.func18 rfl Tryd.ntmps18 Tryd.results18 (by simp) ?_
    refine T_sr ?_
    refine S_as rfl rfl rfl ?_
    refine S_nx ?_
    refine T_sr ?_
    refine S_mv rfl rfl rfl ?_
    refine S_val rfl rfl (Y_quoN rfl rfl (nat_cast _) (nat_lit' _) (Nat.succ_ne_zero _) (by first | with_reducible exact xi64 (by omega) | with_reducible exact x64 (by omega) | with_reducible exact x8 (by omega) | with_reducible exact x32 (by omega))) ?_
    refine S_as rfl rfl rfl ?_
    refine S_nx ?_
    refine T_seq ?_
    refine T_sr ?_
    refine S_mv rfl rfl rfl ?_
    refine S_val rfl rfl (Y_remN rfl rfl (nat_cast _) (nat_lit' _) (Nat.succ_ne_zero _)) ?_
    refine S_val rfl rfl (Y_gtr_f rfl rfl (by omega)) ?_
    refine S_nx ?_
    refine T_cond_false rfl ?_
    refine T_skip ?_
    refine X_seq ?_
    refine T_sr ?_
    refine S_mv rfl rfl rfl ?_
    refine S_as rfl rfl rfl ?_
    refine S_nx ?_
    refine T_ret ?_
    ((first | refine X_fin_ret ?_ | refine X_fin ?_); exact ⟨[_], [], .cons (.tmp rfl) .nil, Emb.nil _, by rw [show (n + 31) / 32 = n / 32 by omega]; rfl, rfl⟩)
  · refine Fn_of (args := [.int .u64 n]) Tryd.func18 rfl Tryd.ntmps18 Tryd.results18 (by simp) ?_
    refine T_sr ?_
    refine S_as rfl rfl rfl ?_
    refine S_nx ?_
    refine T_sr ?_
    refine S_mv rfl rfl rfl ?_
    refine S_val rfl rfl (Y_quoN rfl rfl (nat_cast _) (nat_lit' _) (Nat.succ_ne_zero _) (by first | with_reducible exact xi64 (by omega) | with_reducible exact x64 (by omega) | with_reducible exact x8 (by omega) | with_reducible exact x32 (by omega))) ?_
    refine S_as rfl rfl rfl ?_
    refine S_nx ?_
    refine T_seq ?_
    refine T_sr ?_
    refine S_mv rfl rfl rfl ?_
    refine S_val rfl rfl (Y_remN rfl rfl (nat_cast _) (nat_lit' _) (Nat.succ_ne_zero _)) ?_
    refine S_val rfl rfl (Y_gtr_t rfl rfl (by omega)) ?_
    refine S_nx ?_
    refine T_cond_true rfl ?_
    refine T_region ?_
    refine S_mv rfl rfl rfl ?_
    refine S_val rfl rfl (Y_addU rfl rfl (nat_cast _) (nat_lit' _) rfl (by simp only [IntKind.bits]; omega)) ?_
    refine S_as rfl rfl rfl ?_
    refine S_nx ?_
    refine T_sr ?_
    refine S_mv rfl rfl rfl ?_
    refine S_as rfl rfl rfl ?_
    refine S_nx ?_
    refine T_ret ?_
    ((first | refine X_fin_ret ?_ | refine X_fin ?_); exact ⟨[_], [], .cons (.tmp rfl) .nil, Emb.nil _, by rw [show (n + 31) / 32 = n / 32 + 1 by omega]; rfl, rfl⟩)
theorem rwords_any (n : Nat) (hn : n ≤ 1000000) (w : World) : Fn Tryd.prog 25 #[.int .u64 n] w fun u N => u = .int .u64 (((n + 31) / 32 : Nat) : Int) ∧ N = [] := by
  by_cases h : n % 32 = 0
  · refine Fn_of (args := [.int .u64 n]) Tryd.func25 rfl Tryd.ntmps25 Tryd.results25 (by simp) ?_
    refine T_sr ?_
    refine S_as rfl rfl rfl ?_
    refine S_nx ?_
    refine T_seq ?_
    refine T_sr ?_
    refine S_mv rfl rfl rfl ?_
    refine S_val rfl rfl (Y_remN rfl rfl (nat_cast _) (nat_lit' _) (Nat.succ_ne_zero _)) ?_
    refine S_val rfl rfl (Y_eql_t rfl rfl (by omega)) ?_
    refine S_nx ?_
    refine T_cond_true rfl ?_
    refine T_sr ?_
    refine S_mv rfl rfl rfl ?_
    refine S_val rfl rfl (Y_quoN rfl rfl (nat_cast _) (nat_lit' _) (Nat.succ_ne_zero _) (by first | with_reducible exact xi64 (by omega) | with_reducible exact x64 (by omega) | with_reducible exact x8 (by omega) | with_reducible exact x32 (by omega))) ?_
    refine S_as rfl rfl rfl ?_
    refine S_nx ?_
    refine T_ret ?_
    refine X_seq_ret ?_
    ((first | refine X_fin_ret ?_ | refine X_fin ?_); exact ⟨[_], [], .cons (.tmp rfl) .nil, Emb.nil _, by rw [show (n + 31) / 32 = n / 32 by omega]; rfl, rfl⟩)
  · refine Fn_of (args := [.int .u64 n]) Tryd.func25 rfl Tryd.ntmps25 Tryd.results25 (by simp) ?_
    refine T_sr ?_
    refine S_as rfl rfl rfl ?_
    refine S_nx ?_
    refine T_seq ?_
    refine T_sr ?_
    refine S_mv rfl rfl rfl ?_
    refine S_val rfl rfl (Y_remN rfl rfl (nat_cast _) (nat_lit' _) (Nat.succ_ne_zero _)) ?_
    refine S_val rfl rfl (Y_eql_f rfl rfl (by omega)) ?_
    refine S_nx ?_
    refine T_cond_false rfl ?_
    refine T_skip ?_
    refine X_seq ?_
    refine T_sr ?_
    refine S_mv rfl rfl rfl ?_
    refine S_val rfl rfl (Y_quoN rfl rfl (nat_cast _) (nat_lit' _) (Nat.succ_ne_zero _) (by first | with_reducible exact xi64 (by omega) | with_reducible exact x64 (by omega) | with_reducible exact x8 (by omega) | with_reducible exact x32 (by omega))) ?_
    refine S_val rfl rfl (Y_addU rfl rfl (nat_cast _) (nat_lit' _) rfl (by simp only [IntKind.bits]; omega)) ?_
    refine S_as rfl rfl rfl ?_
    refine S_nx ?_
    refine T_ret ?_
    ((first | refine X_fin_ret ?_ | refine X_fin ?_); exact ⟨[_], [], .cons (.tmp rfl) .nil, Emb.nil _, by rw [show (n + 31) / 32 = n / 32 + 1 by omega]; rfl, rfl⟩)
def priceN (q : Int) (n x : Nat) : Nat := if q = 2 then 60 + 12 * ((n + 31) / 32) else if q = 4 then 15 + 3 * ((n + 31) / 32) else if q = 5 then gasN n x else 0
theorem gasN_lt (n x : Nat) : gasN n x < 18446744073709551616 := by
  unfold gasN
  split
  · omega
  · split
    · exact Nat.lt_of_le_of_lt (Nat.min_le_right _ _) (by omega)
    · omega
theorem priceN_lt (q : Int) (n x : Nat) (hn : n ≤ 1000000) : priceN q n x < 18446744073709551616 := by
  have := gasN_lt n x
  unfold priceN
  split
  · omega
  · split
    · omega
    · split
      · exact this
      · omega
theorem op_cases (q : Int) : q = 2 ∨ q = 4 ∨ q = 5 ∨ (q ≠ 2 ∧ q ≠ 4 ∧ q ≠ 5) := by omega
theorem price_any (q : Int) (n x : Nat) (hx : x < 256 ^ n) (hn : n ≤ 1000000) (v : Value) (w : World) (hr : Rd w v .u8 (bel n x)) : Fn Tryd.prog 10 #[.int .i64 q, v] w fun u N => u = .int .u64 ((priceN q n x : Nat) : Int) ∧ N = [] := by
  have mw := mwords_any n hn
  have hk : (n + 31) / 32 ≤ 40000 := by omega
  have hbl := bel_length n x
  rcases op_cases q with rfl | rfl | rfl | ⟨h2, h4, h5⟩
  · have e : priceN 2 n x = 60 + 12 * ((n + 31) / 32) := by unfold priceN; rw [if_pos rfl]
    rw [e]
    clear e hx
    generalize (n + 31) / 32 = k at *
    refine Fn_of (args := [.int .i64 2, v]) Tryd.func10 rfl Tryd.ntmps10 Tryd.results10 (by simp) ?_
    refine T_sr ?_
    refine S_as rfl rfl rfl ?_
    refine S_nx ?_
    refine T_sr ?_
    refine S_mv rfl rfl rfl ?_
    refine S_val rfl rfl (Y_lenV rfl (und rfl) rfl (fun _ hs => Rd.st (by assumption) hs) (bel_length _ _)) ?_
    refine S_val rfl rfl (Y_conv (und rfl) (und rfl) rfl (wu64 (by omega) (by omega))) ?_
    refine S_callV rfl rfl (bod rfl) (fun w hs => mw _) rfl rfl ?_
    refine S_as rfl rfl rfl ?_
    refine S_nx ?_
    refine T_seq ?_
    refine T_sr ?_
    refine S_mv rfl rfl rfl ?_
    refine S_nx ?_
    refine T_block ?_
    refine T_sr ?_
    refine S_val rfl rfl (Y_eql_t rfl rfl (by decide)) ?_
    refine S_as rfl rfl rfl ?_
    refine S_nx ?_
    refine T_cond_true rfl ?_
    refine T_sr ?_
    refine S_mv rfl rfl rfl ?_
    refine S_val rfl rfl (Y_mulU rfl rfl (nat_lit' _) (nat_cast _) rfl (by simp only [IntKind.bits]; omega)) ?_
    refine S_val rfl rfl (Y_addU rfl rfl (nat_lit' _) (nat_cast _) rfl (by simp only [IntKind.bits]; omega)) ?_
    refine S_as rfl rfl rfl ?_
    refine S_nx ?_
    refine T_ret ?_
    refine X_blk_ret ?_
    refine X_seq_ret ?_
    ((first | refine X_fin_ret ?_ | refine X_fin ?_); exact ⟨[_], [], .cons (.tmp rfl) .nil, Emb.nil _, rfl, rfl⟩)
  · have e : priceN 4 n x = 15 + 3 * ((n + 31) / 32) := by unfold priceN; rw [if_neg (by decide), if_pos rfl]
    rw [e]
    clear e hx
    generalize (n + 31) / 32 = k at *
    refine Fn_of (args := [.int .i64 4, v]) Tryd.func10 rfl Tryd.ntmps10 Tryd.results10 (by simp) ?_
    refine T_sr ?_
    refine S_as rfl rfl rfl ?_
    refine S_nx ?_
    refine T_sr ?_
    refine S_mv rfl rfl rfl ?_
    refine S_val rfl rfl (Y_lenV rfl (und rfl) rfl (fun _ hs => Rd.st (by assumption) hs) (bel_length _ _)) ?_
    refine S_val rfl rfl (Y_conv (und rfl) (und rfl) rfl (wu64 (by omega) (by omega))) ?_
    refine S_callV rfl rfl (bod rfl) (fun w hs => mw _) rfl rfl ?_
    refine S_as rfl rfl rfl ?_
    refine S_nx ?_
    refine T_seq ?_
    refine T_sr ?_
    refine S_mv rfl rfl rfl ?_
    refine S_nx ?_
    refine T_block ?_
    refine T_sr ?_
    refine S_val rfl rfl (Y_eql_f rfl rfl (by decide)) ?_
    refine S_as rfl rfl rfl ?_
    refine S_nx ?_
    refine T_cond_false rfl ?_
    refine T_sr ?_
    refine S_val rfl rfl (Y_eql_t rfl rfl (by decide)) ?_
    refine S_as rfl rfl rfl ?_
    refine S_nx ?_
    refine T_cond_true rfl ?_
    refine T_sr ?_
    refine S_mv rfl rfl rfl ?_
    refine S_val rfl rfl (Y_mulU rfl rfl (nat_lit' _) (nat_cast _) rfl (by simp only [IntKind.bits]; omega)) ?_
    refine S_val rfl rfl (Y_addU rfl rfl (nat_lit' _) (nat_cast _) rfl (by simp only [IntKind.bits]; omega)) ?_
    refine S_as rfl rfl rfl ?_
    refine S_nx ?_
    refine T_ret ?_
    refine X_blk_ret ?_
    refine X_seq_ret ?_
    ((first | refine X_fin_ret ?_ | refine X_fin ?_); exact ⟨[_], [], .cons (.tmp rfl) .nil, Emb.nil _, rfl, rfl⟩)
  · have mg := fun w h => mgas_any n x hx hn v w h
    have e : priceN 5 n x = gasN n x := by unfold priceN; rw [if_neg (by decide), if_neg (by decide), if_pos rfl]
    rw [e]
    generalize gasN n x = g at *
    clear e hx
    generalize (n + 31) / 32 = k at *
    refine Fn_of (args := [.int .i64 5, v]) Tryd.func10 rfl Tryd.ntmps10 Tryd.results10 (by simp) ?_
    refine T_sr ?_
    refine S_as rfl rfl rfl ?_
    refine S_nx ?_
    refine T_sr ?_
    refine S_mv rfl rfl rfl ?_
    refine S_val rfl rfl (Y_lenV rfl (und rfl) rfl (fun _ hs => Rd.st (by assumption) hs) (bel_length _ _)) ?_
    refine S_val rfl rfl (Y_conv (und rfl) (und rfl) rfl (wu64 (by omega) (by omega))) ?_
    refine S_callV rfl rfl (bod rfl) (fun w hs => mw _) rfl rfl ?_
    refine S_as rfl rfl rfl ?_
    refine S_nx ?_
    refine T_seq ?_
    refine T_sr ?_
    refine S_mv rfl rfl rfl ?_
    refine S_nx ?_
    refine T_block ?_
    refine T_sr ?_
    refine S_val rfl rfl (Y_eql_f rfl rfl (by decide)) ?_
    refine S_as rfl rfl rfl ?_
    refine S_nx ?_
    refine T_cond_false rfl ?_
    refine T_sr ?_
    refine S_val rfl rfl (Y_eql_f rfl rfl (by decide)) ?_
    refine S_as rfl rfl rfl ?_
    refine S_nx ?_
    refine T_cond_false rfl ?_
    refine T_sr ?_
    refine S_val rfl rfl (Y_eql_t rfl rfl (by decide)) ?_
    refine S_as rfl rfl rfl ?_
    refine S_nx ?_
    refine T_cond_true rfl ?_
    refine T_sr ?_
    refine S_mv rfl rfl rfl ?_
    refine S_callV rfl rfl (bod rfl) (fun w hs => mg _ (by first | exact hs.rowRd 0 rfl | exact hs.rowRd 1 rfl | exact hs.rowRd 2 rfl | exact hs.rowRd 3 rfl | exact hs.rowRd 4 rfl | exact hs.rowRd 5 rfl | exact hs.rowRd 6 rfl | exact hs.rowRd 7 rfl | exact hs.rowRd 8 rfl | exact hs.rowRd 9 rfl | exact hs.rowRd 10 rfl | exact hs.rowRd 11 rfl | exact hs.rowRd 12 rfl | exact hs.rowRd 13 rfl | exact Rd.st (by assumption) hs)) rfl rfl ?_
    refine S_as rfl rfl rfl ?_
    refine S_nx ?_
    refine T_ret ?_
    refine X_blk_ret ?_
    refine X_seq_ret ?_
    ((first | refine X_fin_ret ?_ | refine X_fin ?_); exact ⟨[_], [], .cons (.tmp rfl) .nil, Emb.nil _, rfl, rfl⟩)
  · have e : priceN q n x = 0 := by unfold priceN; rw [if_neg h2, if_neg h4, if_neg h5]
    rw [e]
    clear e hx
    generalize (n + 31) / 32 = k at *
    refine Fn_of (args := [.int .i64 q, v]) Tryd.func10 rfl Tryd.ntmps10 Tryd.results10 (by simp) ?_
    refine T_sr ?_
    refine S_as rfl rfl rfl ?_
    refine S_nx ?_
    refine T_sr ?_
    refine S_mv rfl rfl rfl ?_
    refine S_val rfl rfl (Y_lenV rfl (und rfl) rfl (fun _ hs => Rd.st (by assumption) hs) (bel_length _ _)) ?_
    refine S_val rfl rfl (Y_conv (und rfl) (und rfl) rfl (wu64 (by omega) (by omega))) ?_
    refine S_callV rfl rfl (bod rfl) (fun w hs => mw _) rfl rfl ?_
    refine S_as rfl rfl rfl ?_
    refine S_nx ?_
    refine T_seq ?_
    refine T_sr ?_
    refine S_mv rfl rfl rfl ?_
    refine S_nx ?_
    refine T_block ?_
    refine T_sr ?_
    refine S_val rfl rfl (Y_eql_f rfl rfl (by assumption)) ?_
    refine S_as rfl rfl rfl ?_
    refine S_nx ?_
    refine T_cond_false rfl ?_
    refine T_sr ?_
    refine S_val rfl rfl (Y_eql_f rfl rfl (by assumption)) ?_
    refine S_as rfl rfl rfl ?_
    refine S_nx ?_
    refine T_cond_false rfl ?_
    refine T_sr ?_
    refine S_val rfl rfl (Y_eql_f rfl rfl (by assumption)) ?_
    refine S_as rfl rfl rfl ?_
    refine S_nx ?_
    refine T_cond_false rfl ?_
    refine T_skip ?_
    refine X_blk ?_
    refine X_seq ?_
    refine T_sr ?_
    refine S_as rfl rfl rfl ?_
    refine S_nx ?_
    refine T_ret ?_
    ((first | refine X_fin_ret ?_ | refine X_fin ?_); exact ⟨[_], [], .cons (.tmp rfl) .nil, Emb.nil _, rfl, rfl⟩)
theorem rgas_any (n x : Nat) (hx : x < 256 ^ n) (hn : n ≤ 1000000) (v : Value) (w : World) (hr : Rd w v .u8 (bel n x)) : Fn Tryd.prog 26 #[v] w fun u N => u = .int .u64 ((gasN n x : Nat) : Int) ∧ N = [] := by
  by_cases h1 : (lenN n x 0 = 0 ∧ lenN n x 2 = 0) ∨ ¬ (lenN n x 0 < 18446744073709551616 ∧ lenN n x 1 < 18446744073709551616 ∧ lenN n x 2 < 18446744073709551616)
  · exact rgas_none n x hx hn v w hr h1
  · rw [not_or, Classical.not_not] at h1
    exact rgas_some n x hx hn v w hr h1.1 h1.2.1 h1.2.2.1 h1.2.2.2
theorem rprice_any (q : Int) (n x : Nat) (hx : x < 256 ^ n) (hn : n ≤ 1000000) (v : Value) (w : World) (hr : Rd w v .u8 (bel n x)) : Fn Tryd.prog 14 #[.int .i64 q, v] w fun u N => u = .int .u64 ((priceN q n x : Nat) : Int) ∧ N = [] := by
  have mw := rwords_any n hn
  have hk : (n + 31) / 32 ≤ 40000 := by omega
  have hbl := bel_length n x
  rcases op_cases q with rfl | rfl | rfl | ⟨h2, h4, h5⟩
  · have e : priceN 2 n x = 60 + (n + 31) / 32 * 12 := by unfold priceN; rw [if_pos rfl, Nat.mul_comm]
    rw [e]
    clear e hx
    generalize (n + 31) / 32 = k at *
    refine Fn_of (args := [.int .i64 2, v]) Tryd.func14 rfl Tryd.ntmps14 Tryd.results14 (by simp) ?_
    refine T_sr ?_
    refine S_as rfl rfl rfl ?_
    refine S_nx ?_
    refine T_sr ?_
    refine S_mv rfl rfl rfl ?_
    refine S_val rfl rfl (Y_lenV rfl (und rfl) rfl (fun _ hs => Rd.st (by assumption) hs) (bel_length _ _)) ?_
    refine S_val rfl rfl (Y_conv (und rfl) (und rfl) rfl (wu64 (by omega) (by omega))) ?_
    refine S_callV rfl rfl (bod rfl) (fun w hs => mw _) rfl rfl ?_
    refine S_as rfl rfl rfl ?_
    refine S_nx ?_
    refine T_seq ?_
    refine T_sr ?_
    refine S_mv rfl rfl rfl ?_
    refine S_nx ?_
    refine T_block ?_
    refine T_sr ?_
    refine S_val rfl rfl (Y_eql_t rfl rfl (by decide)) ?_
    refine S_as rfl rfl rfl ?_
    refine S_nx ?_
    refine T_cond_true rfl ?_
    refine T_sr ?_
    refine S_mv rfl rfl rfl ?_
    refine S_val rfl rfl (Y_mulU rfl rfl (nat_cast _) (nat_lit' _) rfl (by simp only [IntKind.bits]; omega)) ?_
    refine S_val rfl rfl (Y_addU rfl rfl (nat_lit' _) (nat_cast _) rfl (by simp only [IntKind.bits]; omega)) ?_
    refine S_as rfl rfl rfl ?_
    refine S_nx ?_
    refine T_ret ?_
    refine X_blk_ret ?_
    refine X_seq_ret ?_
    ((first | refine X_fin_ret ?_ | refine X_fin ?_); exact ⟨[_], [], .cons (.tmp rfl) .nil, Emb.nil _, rfl, rfl⟩)
  · have e : priceN 4 n x = 15 + (n + 31) / 32 * 3 := by unfold priceN; rw [if_neg (by decide), if_pos rfl, Nat.mul_comm]
    rw [e]
    clear e hx
    generalize (n + 31) / 32 = k at *
    refine Fn_of (args := [.int .i64 4, v]) Tryd.func14 rfl Tryd.ntmps14 Tryd.results14 (by simp) ?_
    refine T_sr ?_
    refine S_as rfl rfl rfl ?_
    refine S_nx ?_
    refine T_sr ?_
    refine S_mv rfl rfl rfl ?_
    refine S_val rfl rfl (Y_lenV rfl (und rfl) rfl (fun _ hs => Rd.st (by assumption) hs) (bel_length _ _)) ?_
    refine S_val rfl rfl (Y_conv (und rfl) (und rfl) rfl (wu64 (by omega) (by omega))) ?_
    refine S_callV rfl rfl (bod rfl) (fun w hs => mw _) rfl rfl ?_
    refine S_as rfl rfl rfl ?_
    refine S_nx ?_
    refine T_seq ?_
    refine T_sr ?_
    refine S_mv rfl rfl rfl ?_
    refine S_nx ?_
    refine T_block ?_
    refine T_sr ?_
    refine S_val rfl rfl (Y_eql_f rfl rfl (by decide)) ?_
    refine S_as rfl rfl rfl ?_
    refine S_nx ?_
    refine T_cond_false rfl ?_
    refine T_sr ?_
    refine S_val rfl rfl (Y_eql_t rfl rfl (by decide)) ?_
    refine S_as rfl rfl rfl ?_
    refine S_nx ?_
    refine T_cond_true rfl ?_
    refine T_sr ?_
    refine S_mv rfl rfl rfl ?_
    refine S_val rfl rfl (Y_mulU rfl rfl (nat_cast _) (nat_lit' _) rfl (by simp only [IntKind.bits]; omega)) ?_
    refine S_val rfl rfl (Y_addU rfl rfl (nat_lit' _) (nat_cast _) rfl (by simp only [IntKind.bits]; omega)) ?_
    refine S_as rfl rfl rfl ?_
    refine S_nx ?_
    refine T_ret ?_
    refine X_blk_ret ?_
    refine X_seq_ret ?_
    ((first | refine X_fin_ret ?_ | refine X_fin ?_); exact ⟨[_], [], .cons (.tmp rfl) .nil, Emb.nil _, rfl, rfl⟩)
  · have mg := fun w h => rgas_any n x hx hn v w h
    have e : priceN 5 n x = gasN n x := by unfold priceN; rw [if_neg (by decide), if_neg (by decide), if_pos rfl]
    rw [e]
    generalize gasN n x = g at *
    clear e hx
    generalize (n + 31) / 32 = k at *
    refine Fn_of (args := [.int .i64 5, v]) Tryd.func14 rfl Tryd.ntmps14 Tryd.results14 (by simp) ?_
    refine T_sr ?_
    refine S_as rfl rfl rfl ?_
    refine S_nx ?_
    refine T_sr ?_
    refine S_mv rfl rfl rfl ?_
    refine S_val rfl rfl (Y_lenV rfl (und rfl) rfl (fun _ hs => Rd.st (by assumption) hs) (bel_length _ _)) ?_
    refine S_val rfl rfl (Y_conv (und rfl) (und rfl) rfl (wu64 (by omega) (by omega))) ?_
    refine S_callV rfl rfl (bod rfl) (fun w hs => mw _) rfl rfl ?_
    refine S_as rfl rfl rfl ?_
    refine S_nx ?_
    refine T_seq ?_
    refine T_sr ?_
    refine S_mv rfl rfl rfl ?_
    refine S_nx ?_
    refine T_block ?_
    refine T_sr ?_
    refine S_val rfl rfl (Y_eql_f rfl rfl (by decide)) ?_
    refine S_as rfl rfl rfl ?_
    refine S_nx ?_
    refine T_cond_false rfl ?_
    refine T_sr ?_
    refine S_val rfl rfl (Y_eql_f rfl rfl (by decide)) ?_
    refine S_as rfl rfl rfl ?_
    refine S_nx ?_
    refine T_cond_false rfl ?_
    refine T_sr ?_
    refine S_val rfl rfl (Y_eql_t rfl rfl (by decide)) ?_
    refine S_as rfl rfl rfl ?_
    refine S_nx ?_
    refine T_cond_true rfl ?_
    refine T_sr ?_
    refine S_mv rfl rfl rfl ?_
    refine S_callV rfl rfl (bod rfl) (fun w hs => mg _ (by first | exact hs.rowRd 0 rfl | exact hs.rowRd 1 rfl | exact hs.rowRd 2 rfl | exact hs.rowRd 3 rfl | exact hs.rowRd 4 rfl | exact hs.rowRd 5 rfl | exact hs.rowRd 6 rfl | exact hs.rowRd 7 rfl | exact hs.rowRd 8 rfl | exact hs.rowRd 9 rfl | exact hs.rowRd 10 rfl | exact hs.rowRd 11 rfl | exact hs.rowRd 12 rfl | exact hs.rowRd 13 rfl | exact Rd.st (by assumption) hs)) rfl rfl ?_
    refine S_as rfl rfl rfl ?_
    refine S_nx ?_
    refine T_ret ?_
    refine X_blk_ret ?_
    refine X_seq_ret ?_
    ((first | refine X_fin_ret ?_ | refine X_fin ?_); exact ⟨[_], [], .cons (.tmp rfl) .nil, Emb.nil _, rfl, rfl⟩)
  · have e : priceN q n x = 0 := by unfold priceN; rw [if_neg h2, if_neg h4, if_neg h5]
    rw [e]
    clear e hx
    generalize (n + 31) / 32 = k at *
    refine Fn_of (args := [.int .i64 q, v]) Tryd.func14 rfl Tryd.ntmps14 Tryd.results14 (by simp) ?_
    refine T_sr ?_
    refine S_as rfl rfl rfl ?_
    refine S_nx ?_
    refine T_sr ?_
    refine S_mv rfl rfl rfl ?_
    refine S_val rfl rfl (Y_lenV rfl (und rfl) rfl (fun _ hs => Rd.st (by assumption) hs) (bel_length _ _)) ?_
    refine S_val rfl rfl (Y_conv (und rfl) (und rfl) rfl (wu64 (by omega) (by omega))) ?_
    refine S_callV rfl rfl (bod rfl) (fun w hs => mw _) rfl rfl ?_
    refine S_as rfl rfl rfl ?_
    refine S_nx ?_
    refine T_seq ?_
    refine T_sr ?_
    refine S_mv rfl rfl rfl ?_
    refine S_nx ?_
    refine T_block ?_
    refine T_sr ?_
    refine S_val rfl rfl (Y_eql_f rfl rfl (by assumption)) ?_
    refine S_as rfl rfl rfl ?_
    refine S_nx ?_
    refine T_cond_false rfl ?_
    refine T_sr ?_
    refine S_val rfl rfl (Y_eql_f rfl rfl (by assumption)) ?_
    refine S_as rfl rfl rfl ?_
    refine S_nx ?_
    refine T_cond_false rfl ?_
    refine T_sr ?_
    refine S_val rfl rfl (Y_eql_f rfl rfl (by assumption)) ?_
    refine S_as rfl rfl rfl ?_
    refine S_nx ?_
    refine T_cond_false rfl ?_
    refine T_skip ?_
    refine X_blk ?_
    refine X_seq ?_
    refine T_sr ?_
    refine S_as rfl rfl rfl ?_
    refine S_nx ?_
    refine T_ret ?_
    ((first | refine X_fin_ret ?_ | refine X_fin ?_); exact ⟨[_], [], .cons (.tmp rfl) .nil, Emb.nil _, rfl, rfl⟩)
end Go.Proofs.YtjolmphkmfbpbaaDoor
/- A slice of bytes out of a constant string. -/
namespace Go.Proofs.YtjolmphkmfbpbaaDoor
open Go.RowKit
set_option maxRecDepth 20000
/-- A slice of its own block, that nobody writes to. -/
def rowZ (k : IntKind) (l : List Int) (v : Value) : Asr := fun h =>
  ∃ g cap post e fz, v = .slice (some ⟨g, 0, none⟩) l.length cap ∧ h g = some (.cells (ints k (l ++ post)) e fz) ∧ l.length ≤ cap
theorem rowZ.rd {S : Nat → Prop} {w : World} {k : IntKind} {l : List Int} {v : Value} (h : rowZ k l v (cut S w)) : Rd w v k l := by
  obtain ⟨g, cap, post, e, fz, rfl, hg, hc⟩ := h
  refine ⟨_, _, rfl, hc, .inr ⟨g, 0, _, e, fz, rfl, (cut_in hg).2, fun i p hp => ?_⟩⟩
  rw [Nat.zero_add, ints_get, List.getElem?_append_left (List.getElem?_eq_some_iff.1 hp).1, hp]
  rfl
theorem St.rowZRd {C : Ctx} {L : Hp} {w : World} (h : St C L w) (q : Nat) {k : IntKind} {l : List Int} {v : Value} (hq : L[q]? = some (rowZ k l v)) : Rd w v k l := by
  obtain ⟨ow, ho⟩ := h.own
  exact rowZ.rd (ho.sat q _ hq)
theorem S_convB {C : Ctx} {K0 : K} {E : Env} {L : Hp} {ops : Array Oper} {rest : List Oper} {ty : TypeId} {pos : String} {af : Array Edge} {g : Option (Nat × Bool)} {x : Operand} {t e : TypeId} {d : Nat} {l : List Int} {v : Value}
    (q : Nat) (ht : C.P.underlying t = some (.slice e)) (he : C.P.underlying e = some (.int .u8)) (hx : ev E x = some v) (hq : L[q]? = some (row .u8 l v)) (hne : l ≠ []) (hg : wantedE ops E g = some true) (hd : Nat.blt d C.n = true)
    (h : ∀ v', S C ops rest K0 ((d, v') :: E) (L.set q (rowZ .u8 l v'))) : S C ops (⟨some d, .convert t t x, ty, pos, af, g⟩ :: rest) K0 E L := by
  refine S_updV (R := rowZ .u8 l) q hg hd hq (fun a w D hrel hs hA hl => ?_) h
  rcases hA with ⟨_, rfl⟩ | ⟨gb, gc, post, ge, rfl, hB, hc⟩
  · exact absurd rfl hne
  have hw := (cut_in hB).2
  have hsh : w.shape? gb = some (ge, (ints .u8 (l ++ post)).size) := by unfold World.shape?; rw [hw]
  have hlt : gb < w.heap.size := (Array.getElem?_eq_some_iff.1 hw).1
  have hr : (execOp a.eval ⟨some d, .convert t t x, ty, pos, af, g⟩).run C.P w = .ok (.value (.slice (some ⟨gb, 0, none⟩) l.length gc)) (w.freeze ⟨gb, (ints .u8 (l ++ post)).size, none⟩ 1) := by
    simp [execOp, hrel.eval hx, convert, run_underlying ht, run_underlying he, markStringish, hsh]
  have hz : ∀ b, (w.freeze ⟨gb, (ints .u8 (l ++ post)).size, none⟩ 1).heap[b]? = if b = gb then some (.cells (ints .u8 (l ++ post)) ge ((ints .u8 (l ++ post)).size, (ints .u8 (l ++ post)).size + 1)) else w.heap[b]? := fun b => by
    unfold World.freeze
    rw [if_neg (by decide)]
    dsimp only
    rw [Array.getElem?_modify]
    by_cases hbg : gb = b
    · subst hbg
      rw [if_pos rfl, if_pos rfl, hw]
      rfl
    · rw [if_neg hbg, if_neg (fun e => hbg e.symm)]
  have hsz : (w.freeze ⟨gb, (ints .u8 (l ++ post)).size, none⟩ 1).heap.size = w.heap.size := by
    unfold World.freeze
    rw [if_neg (by decide)]
    exact Array.size_modify
  refine ⟨_, _, D, hr, rfl, rfl, rfl, by omega, fun b hb => .inl hb, fun b _ hn => ?_, ⟨gb, gc, post, ge, _, rfl, cut_of (cut_in hB).1 (by rw [hz, if_pos rfl]), by omega⟩⟩
  have hne2 : b ≠ gb := fun e3 => hn (by rw [e3]; exact (cut_in hB).1)
  rw [hz, if_neg hne2]
end Go.Proofs.YtjolmphkmfbpbaaDoor
/- Package prec: Run; the law PrecPaid. -/
namespace Go.Proofs.YtjolmphkmfbpbaaDoor
open Go.RowKit
set_option maxRecDepth 20000
set_option maxHeartbeats 40000000
theorem short16_any (n x : Nat) (hx : x < 256 ^ n) (hn : n ≤ 1000000) (v : Value) (w : World) (hr : Rd w v .u8 (bel n x)) : Fn Tryd.prog 4 #[v] w fun u N => (∃ b, u = .bool b) ∧ N = [] := by
  have l0 := fun w h => rlength_any n x 0 hx hn (by omega) v w h
  have l1 := fun w h => rlength_any n x 1 hx hn (by omega) v w h
  have l2 := fun w h => rlength_any n x 2 hx hn (by omega) v w h
  generalize decide (lenN n x 0 < 18446744073709551616) = q0 at *
  generalize decide (lenN n x 1 < 18446744073709551616) = q1 at *
  generalize decide (lenN n x 2 < 18446744073709551616) = q2 at *
  generalize (if lenN n x 0 < 18446744073709551616 then lenN n x 0 else 0) = z0 at *
  generalize (if lenN n x 1 < 18446744073709551616 then lenN n x 1 else 0) = z1 at *
  generalize (if lenN n x 2 < 18446744073709551616 then lenN n x 2 else 0) = z2 at *
  clear hx hn
  refine Fn_of (args := [v]) Tryd.func4 rfl Tryd.ntmps4 Tryd.results4 (by simp) ?_
  refine T_sr ?_
  refine S_as rfl rfl rfl ?_
  refine S_nx ?_
  refine T_sr ?_
  refine S_mv rfl rfl rfl ?_
  refine S_callV rfl rfl (bod rfl) (fun w hs => l0 _ (by first | exact hs.rowRd 0 rfl | exact hs.rowRd 1 rfl | exact hs.rowRd 2 rfl | exact hs.rowRd 3 rfl | exact hs.rowRd 4 rfl | exact hs.rowRd 5 rfl | exact hs.rowRd 6 rfl | exact hs.rowRd 7 rfl | exact hs.rowRd 8 rfl | exact hs.rowRd 9 rfl | exact hs.rowRd 10 rfl | exact hs.rowRd 11 rfl | exact hs.rowRd 12 rfl | exact hs.rowRd 13 rfl | exact Rd.st (by assumption) hs)) rfl rfl ?_
  refine S_mv rfl rfl rfl ?_
  refine S_val rfl rfl (Y_extract rfl rfl) ?_
  refine S_val rfl rfl (Y_extract rfl rfl) ?_
  refine S_as rfl rfl rfl ?_
  refine S_as rfl rfl rfl ?_
  refine S_nx ?_
  refine T_sr ?_
  refine S_mv rfl rfl rfl ?_
  refine S_callV rfl rfl (bod rfl) (fun w hs => l1 _ (by first | exact hs.rowRd 0 rfl | exact hs.rowRd 1 rfl | exact hs.rowRd 2 rfl | exact hs.rowRd 3 rfl | exact hs.rowRd 4 rfl | exact hs.rowRd 5 rfl | exact hs.rowRd 6 rfl | exact hs.rowRd 7 rfl | exact hs.rowRd 8 rfl | exact hs.rowRd 9 rfl | exact hs.rowRd 10 rfl | exact hs.rowRd 11 rfl | exact hs.rowRd 12 rfl | exact hs.rowRd 13 rfl | exact Rd.st (by assumption) hs)) rfl rfl ?_
  refine S_mv rfl rfl rfl ?_
  refine S_val rfl rfl (Y_extract rfl rfl) ?_
  refine S_val rfl rfl (Y_extract rfl rfl) ?_
  refine S_as rfl rfl rfl ?_
  refine S_as rfl rfl rfl ?_
  refine S_nx ?_
  refine T_sr ?_
  refine S_mv rfl rfl rfl ?_
  refine S_callV rfl rfl (bod rfl) (fun w hs => l2 _ (by first | exact hs.rowRd 0 rfl | exact hs.rowRd 1 rfl | exact hs.rowRd 2 rfl | exact hs.rowRd 3 rfl | exact hs.rowRd 4 rfl | exact hs.rowRd 5 rfl | exact hs.rowRd 6 rfl | exact hs.rowRd 7 rfl | exact hs.rowRd 8 rfl | exact hs.rowRd 9 rfl | exact hs.rowRd 10 rfl | exact hs.rowRd 11 rfl | exact hs.rowRd 12 rfl | exact hs.rowRd 13 rfl | exact Rd.st (by assumption) hs)) rfl rfl ?_
  cases q0
  · refine S_mv rfl rfl rfl ?_
    refine S_val rfl rfl (Y_extract rfl rfl) ?_
    refine S_val rfl rfl (Y_extract rfl rfl) ?_
    refine S_as rfl rfl rfl ?_
    refine S_as rfl rfl rfl ?_
    refine S_nx ?_
    refine T_seq ?_
    refine T_sr ?_
    refine S_mv rfl rfl rfl ?_
    refine S_val rfl rfl (Y_not rfl rfl) ?_
    refine S_mv rfl rfl rfl ?_
    refine S_skip rfl rfl ?_
    refine S_skip rfl rfl ?_
    refine S_val rfl rfl (Y_pick_t rfl rfl) ?_
    refine S_mv rfl rfl rfl ?_
    refine S_skip rfl rfl ?_
    refine S_skip rfl rfl ?_
    refine S_val rfl rfl (Y_pick_t rfl rfl) ?_
    refine S_mv rfl rfl rfl ?_
    refine S_skip rfl rfl ?_
    refine S_skip rfl rfl ?_
    refine S_val rfl rfl (Y_pick_t rfl rfl) ?_
    refine S_mv rfl rfl rfl ?_
    refine S_skip rfl rfl ?_
    refine S_skip rfl rfl ?_
    refine S_val rfl rfl (Y_pick_t rfl rfl) ?_
    refine S_mv rfl rfl rfl ?_
    refine S_skip rfl rfl ?_
    refine S_skip rfl rfl ?_
    refine S_val rfl rfl (Y_pick_t rfl rfl) ?_
    refine S_nx ?_
    refine T_cond_true rfl ?_
    refine T_sr ?_
    refine S_as rfl rfl rfl ?_
    refine S_nx ?_
    refine T_ret ?_
    refine X_seq_ret ?_
    ((first | refine X_fin_ret ?_ | refine X_fin ?_); exact ⟨[_], [], .cons (.tmp rfl) .nil, Emb.nil _, ⟨_, rfl⟩, rfl⟩)
  · cases q1
    · refine S_mv rfl rfl rfl ?_
      refine S_val rfl rfl (Y_extract rfl rfl) ?_
      refine S_val rfl rfl (Y_extract rfl rfl) ?_
      refine S_as rfl rfl rfl ?_
      refine S_as rfl rfl rfl ?_
      refine S_nx ?_
      refine T_seq ?_
      refine T_sr ?_
      refine S_mv rfl rfl rfl ?_
      refine S_val rfl rfl (Y_not rfl rfl) ?_
      refine S_mv rfl rfl rfl ?_
      refine S_mv rfl rfl rfl ?_
      refine S_val rfl rfl (Y_not rfl rfl) ?_
      refine S_val rfl rfl (Y_pick_f rfl rfl) ?_
      refine S_mv rfl rfl rfl ?_
      refine S_skip rfl rfl ?_
      refine S_skip rfl rfl ?_
      refine S_val rfl rfl (Y_pick_t rfl rfl) ?_
      refine S_mv rfl rfl rfl ?_
      refine S_skip rfl rfl ?_
      refine S_skip rfl rfl ?_
      refine S_val rfl rfl (Y_pick_t rfl rfl) ?_
      refine S_mv rfl rfl rfl ?_
      refine S_skip rfl rfl ?_
      refine S_skip rfl rfl ?_
      refine S_val rfl rfl (Y_pick_t rfl rfl) ?_
      refine S_mv rfl rfl rfl ?_
      refine S_skip rfl rfl ?_
      refine S_skip rfl rfl ?_
      refine S_val rfl rfl (Y_pick_t rfl rfl) ?_
      refine S_nx ?_
      refine T_cond_true rfl ?_
      refine T_sr ?_
      refine S_as rfl rfl rfl ?_
      refine S_nx ?_
      refine T_ret ?_
      refine X_seq_ret ?_
      ((first | refine X_fin_ret ?_ | refine X_fin ?_); exact ⟨[_], [], .cons (.tmp rfl) .nil, Emb.nil _, ⟨_, rfl⟩, rfl⟩)
    · cases q2
      · refine S_mv rfl rfl rfl ?_
        refine S_val rfl rfl (Y_extract rfl rfl) ?_
        refine S_val rfl rfl (Y_extract rfl rfl) ?_
        refine S_as rfl rfl rfl ?_
        refine S_as rfl rfl rfl ?_
        refine S_nx ?_
        refine T_seq ?_
        refine T_sr ?_
        refine S_mv rfl rfl rfl ?_
        refine S_val rfl rfl (Y_not rfl rfl) ?_
        refine S_mv rfl rfl rfl ?_
        refine S_mv rfl rfl rfl ?_
        refine S_val rfl rfl (Y_not rfl rfl) ?_
        refine S_val rfl rfl (Y_pick_f rfl rfl) ?_
        refine S_mv rfl rfl rfl ?_
        refine S_mv rfl rfl rfl ?_
        refine S_val rfl rfl (Y_not rfl rfl) ?_
        refine S_val rfl rfl (Y_pick_f rfl rfl) ?_
        refine S_mv rfl rfl rfl ?_
        refine S_skip rfl rfl ?_
        refine S_skip rfl rfl ?_
        refine S_val rfl rfl (Y_pick_t rfl rfl) ?_
        refine S_mv rfl rfl rfl ?_
        refine S_skip rfl rfl ?_
        refine S_skip rfl rfl ?_
        refine S_val rfl rfl (Y_pick_t rfl rfl) ?_
        refine S_mv rfl rfl rfl ?_
        refine S_skip rfl rfl ?_
        refine S_skip rfl rfl ?_
        refine S_val rfl rfl (Y_pick_t rfl rfl) ?_
        refine S_nx ?_
        refine T_cond_true rfl ?_
        refine T_sr ?_
        refine S_as rfl rfl rfl ?_
        refine S_nx ?_
        refine T_ret ?_
        refine X_seq_ret ?_
        ((first | refine X_fin_ret ?_ | refine X_fin ?_); exact ⟨[_], [], .cons (.tmp rfl) .nil, Emb.nil _, ⟨_, rfl⟩, rfl⟩)
      · rcases (show 64 < z0 ∨ (¬ 64 < z0 ∧ 64 < z1) ∨ (¬ 64 < z0 ∧ ¬ 64 < z1 ∧ 64 < z2) ∨ (¬ 64 < z0 ∧ ¬ 64 < z1 ∧ ¬ 64 < z2 ∧ ¬ z0 ≤ 20) ∨ (¬ 64 < z0 ∧ ¬ 64 < z1 ∧ ¬ 64 < z2 ∧ z0 ≤ 20 ∧ ¬ z1 ≤ 5) ∨ (¬ 64 < z0 ∧ ¬ 64 < z1 ∧ ¬ 64 < z2 ∧ z0 ≤ 20 ∧ z1 ≤ 5 ∧ ¬ z2 ≤ 9) ∨ (¬ 64 < z0 ∧ ¬ 64 < z1 ∧ ¬ 64 < z2 ∧ z0 ≤ 20 ∧ z1 ≤ 5 ∧ z2 ≤ 9) by omega) with g1 | ⟨g1, g2⟩ | ⟨g1, g2, g3⟩ | ⟨g1, g2, g3, g4⟩ | ⟨g1, g2, g3, g4, g5⟩ | ⟨g1, g2, g3, g4, g5, g6⟩ | ⟨g1, g2, g3, g4, g5, g6⟩
        all_goals
          first | (refine S_mv rfl rfl rfl ?_; refine S_val rfl rfl (Y_extract rfl rfl) ?_; refine S_val rfl rfl (Y_extract rfl rfl) ?_; refine S_as rfl rfl rfl ?_; refine S_as rfl rfl rfl ?_; refine S_nx ?_; refine T_seq ?_; refine T_sr ?_; refine S_mv rfl rfl rfl ?_; refine S_val rfl rfl (Y_not rfl rfl) ?_; refine S_mv rfl rfl rfl ?_; refine S_mv rfl rfl rfl ?_; refine S_val rfl rfl (Y_not rfl rfl) ?_; refine S_val rfl rfl (Y_pick_f rfl rfl) ?_; refine S_mv rfl rfl rfl ?_; refine S_mv rfl rfl rfl ?_; refine S_val rfl rfl (Y_not rfl rfl) ?_; refine S_val rfl rfl (Y_pick_f rfl rfl) ?_; refine S_mv rfl rfl rfl ?_; refine S_mv rfl rfl rfl ?_; refine S_val rfl rfl (Y_gtr_t rfl rfl (by omega)) ?_; refine S_val rfl rfl (Y_pick_f rfl rfl) ?_; refine S_mv rfl rfl rfl ?_; refine S_skip rfl rfl ?_; refine S_skip rfl rfl ?_; refine S_val rfl rfl (Y_pick_t rfl rfl) ?_; refine S_mv rfl rfl rfl ?_; refine S_skip rfl rfl ?_; refine S_skip rfl rfl ?_; refine S_val rfl rfl (Y_pick_t rfl rfl) ?_; refine S_nx ?_; refine T_cond_true rfl ?_; refine T_sr ?_; refine S_as rfl rfl rfl ?_; refine S_nx ?_; refine T_ret ?_; refine X_seq_ret ?_) | (refine S_mv rfl rfl rfl ?_; refine S_val rfl rfl (Y_extract rfl rfl) ?_; refine S_val rfl rfl (Y_extract rfl rfl) ?_; refine S_as rfl rfl rfl ?_; refine S_as rfl rfl rfl ?_; refine S_nx ?_; refine T_seq ?_; refine T_sr ?_; refine S_mv rfl rfl rfl ?_; refine S_val rfl rfl (Y_not rfl rfl) ?_; refine S_mv rfl rfl rfl ?_; refine S_mv rfl rfl rfl ?_; refine S_val rfl rfl (Y_not rfl rfl) ?_; refine S_val rfl rfl (Y_pick_f rfl rfl) ?_; refine S_mv rfl rfl rfl ?_; refine S_mv rfl rfl rfl ?_; refine S_val rfl rfl (Y_not rfl rfl) ?_; refine S_val rfl rfl (Y_pick_f rfl rfl) ?_; refine S_mv rfl rfl rfl ?_; refine S_mv rfl rfl rfl ?_; refine S_val rfl rfl (Y_gtr_f rfl rfl (by omega)) ?_; refine S_val rfl rfl (Y_pick_f rfl rfl) ?_; refine S_mv rfl rfl rfl ?_; refine S_mv rfl rfl rfl ?_; refine S_val rfl rfl (Y_gtr_t rfl rfl (by omega)) ?_; refine S_val rfl rfl (Y_pick_f rfl rfl) ?_; refine S_mv rfl rfl rfl ?_; refine S_skip rfl rfl ?_; refine S_skip rfl rfl ?_; refine S_val rfl rfl (Y_pick_t rfl rfl) ?_; refine S_nx ?_; refine T_cond_true rfl ?_; refine T_sr ?_; refine S_as rfl rfl rfl ?_; refine S_nx ?_; refine T_ret ?_; refine X_seq_ret ?_) | (refine S_mv rfl rfl rfl ?_; refine S_val rfl rfl (Y_extract rfl rfl) ?_; refine S_val rfl rfl (Y_extract rfl rfl) ?_; refine S_as rfl rfl rfl ?_; refine S_as rfl rfl rfl ?_; refine S_nx ?_; refine T_seq ?_; refine T_sr ?_; refine S_mv rfl rfl rfl ?_; refine S_val rfl rfl (Y_not rfl rfl) ?_; refine S_mv rfl rfl rfl ?_; refine S_mv rfl rfl rfl ?_; refine S_val rfl rfl (Y_not rfl rfl) ?_; refine S_val rfl rfl (Y_pick_f rfl rfl) ?_; refine S_mv rfl rfl rfl ?_; refine S_mv rfl rfl rfl ?_; refine S_val rfl rfl (Y_not rfl rfl) ?_; refine S_val rfl rfl (Y_pick_f rfl rfl) ?_; refine S_mv rfl rfl rfl ?_; refine S_mv rfl rfl rfl ?_; refine S_val rfl rfl (Y_gtr_f rfl rfl (by omega)) ?_; refine S_val rfl rfl (Y_pick_f rfl rfl) ?_; refine S_mv rfl rfl rfl ?_; refine S_mv rfl rfl rfl ?_; refine S_val rfl rfl (Y_gtr_f rfl rfl (by omega)) ?_; refine S_val rfl rfl (Y_pick_f rfl rfl) ?_; refine S_mv rfl rfl rfl ?_; refine S_mv rfl rfl rfl ?_; refine S_val rfl rfl (Y_gtr_t rfl rfl (by omega)) ?_; refine S_val rfl rfl (Y_pick_f rfl rfl) ?_; refine S_nx ?_; refine T_cond_true rfl ?_; refine T_sr ?_; refine S_as rfl rfl rfl ?_; refine S_nx ?_; refine T_ret ?_; refine X_seq_ret ?_) | (refine S_mv rfl rfl rfl ?_; refine S_val rfl rfl (Y_extract rfl rfl) ?_; refine S_val rfl rfl (Y_extract rfl rfl) ?_; refine S_as rfl rfl rfl ?_; refine S_as rfl rfl rfl ?_; refine S_nx ?_; refine T_seq ?_; refine T_sr ?_; refine S_mv rfl rfl rfl ?_; refine S_val rfl rfl (Y_not rfl rfl) ?_; refine S_mv rfl rfl rfl ?_; refine S_mv rfl rfl rfl ?_; refine S_val rfl rfl (Y_not rfl rfl) ?_; refine S_val rfl rfl (Y_pick_f rfl rfl) ?_; refine S_mv rfl rfl rfl ?_; refine S_mv rfl rfl rfl ?_; refine S_val rfl rfl (Y_not rfl rfl) ?_; refine S_val rfl rfl (Y_pick_f rfl rfl) ?_; refine S_mv rfl rfl rfl ?_; refine S_mv rfl rfl rfl ?_; refine S_val rfl rfl (Y_gtr_f rfl rfl (by omega)) ?_; refine S_val rfl rfl (Y_pick_f rfl rfl) ?_; refine S_mv rfl rfl rfl ?_; refine S_mv rfl rfl rfl ?_; refine S_val rfl rfl (Y_gtr_f rfl rfl (by omega)) ?_; refine S_val rfl rfl (Y_pick_f rfl rfl) ?_; refine S_mv rfl rfl rfl ?_; refine S_mv rfl rfl rfl ?_; refine S_val rfl rfl (Y_gtr_f rfl rfl (by omega)) ?_; refine S_val rfl rfl (Y_pick_f rfl rfl) ?_; refine S_nx ?_; refine T_cond_false rfl ?_; refine T_skip ?_; refine X_seq ?_; refine T_sr ?_; refine S_mv rfl rfl rfl ?_; refine S_val rfl rfl (Y_leq_t rfl rfl (by omega)) ?_; refine S_mv rfl rfl rfl ?_; refine S_mv rfl rfl rfl ?_; refine S_val rfl rfl (Y_leq_t rfl rfl (by omega)) ?_; refine S_val rfl rfl (Y_pick_t rfl rfl) ?_; refine S_mv rfl rfl rfl ?_; refine S_mv rfl rfl rfl ?_; refine S_val rfl rfl (Y_leq_t rfl rfl (by omega)) ?_; refine S_val rfl rfl (Y_pick_t rfl rfl) ?_; refine S_as rfl rfl rfl ?_; refine S_nx ?_; refine T_ret ?_) | (refine S_mv rfl rfl rfl ?_; refine S_val rfl rfl (Y_extract rfl rfl) ?_; refine S_val rfl rfl (Y_extract rfl rfl) ?_; refine S_as rfl rfl rfl ?_; refine S_as rfl rfl rfl ?_; refine S_nx ?_; refine T_seq ?_; refine T_sr ?_; refine S_mv rfl rfl rfl ?_; refine S_val rfl rfl (Y_not rfl rfl) ?_; refine S_mv rfl rfl rfl ?_; refine S_mv rfl rfl rfl ?_; refine S_val rfl rfl (Y_not rfl rfl) ?_; refine S_val rfl rfl (Y_pick_f rfl rfl) ?_; refine S_mv rfl rfl rfl ?_; refine S_mv rfl rfl rfl ?_; refine S_val rfl rfl (Y_not rfl rfl) ?_; refine S_val rfl rfl (Y_pick_f rfl rfl) ?_; refine S_mv rfl rfl rfl ?_; refine S_mv rfl rfl rfl ?_; refine S_val rfl rfl (Y_gtr_f rfl rfl (by omega)) ?_; refine S_val rfl rfl (Y_pick_f rfl rfl) ?_; refine S_mv rfl rfl rfl ?_; refine S_mv rfl rfl rfl ?_; refine S_val rfl rfl (Y_gtr_f rfl rfl (by omega)) ?_; refine S_val rfl rfl (Y_pick_f rfl rfl) ?_; refine S_mv rfl rfl rfl ?_; refine S_mv rfl rfl rfl ?_; refine S_val rfl rfl (Y_gtr_f rfl rfl (by omega)) ?_; refine S_val rfl rfl (Y_pick_f rfl rfl) ?_; refine S_nx ?_; refine T_cond_false rfl ?_; refine T_skip ?_; refine X_seq ?_; refine T_sr ?_; refine S_mv rfl rfl rfl ?_; refine S_val rfl rfl (Y_leq_t rfl rfl (by omega)) ?_; refine S_mv rfl rfl rfl ?_; refine S_mv rfl rfl rfl ?_; refine S_val rfl rfl (Y_leq_t rfl rfl (by omega)) ?_; refine S_val rfl rfl (Y_pick_t rfl rfl) ?_; refine S_mv rfl rfl rfl ?_; refine S_mv rfl rfl rfl ?_; refine S_val rfl rfl (Y_leq_f rfl rfl (by omega)) ?_; refine S_val rfl rfl (Y_pick_t rfl rfl) ?_; refine S_as rfl rfl rfl ?_; refine S_nx ?_; refine T_ret ?_) | (refine S_mv rfl rfl rfl ?_; refine S_val rfl rfl (Y_extract rfl rfl) ?_; refine S_val rfl rfl (Y_extract rfl rfl) ?_; refine S_as rfl rfl rfl ?_; refine S_as rfl rfl rfl ?_; refine S_nx ?_; refine T_seq ?_; refine T_sr ?_; refine S_mv rfl rfl rfl ?_; refine S_val rfl rfl (Y_not rfl rfl) ?_; refine S_mv rfl rfl rfl ?_; refine S_mv rfl rfl rfl ?_; refine S_val rfl rfl (Y_not rfl rfl) ?_; refine S_val rfl rfl (Y_pick_f rfl rfl) ?_; refine S_mv rfl rfl rfl ?_; refine S_mv rfl rfl rfl ?_; refine S_val rfl rfl (Y_not rfl rfl) ?_; refine S_val rfl rfl (Y_pick_f rfl rfl) ?_; refine S_mv rfl rfl rfl ?_; refine S_mv rfl rfl rfl ?_; refine S_val rfl rfl (Y_gtr_f rfl rfl (by omega)) ?_; refine S_val rfl rfl (Y_pick_f rfl rfl) ?_; refine S_mv rfl rfl rfl ?_; refine S_mv rfl rfl rfl ?_; refine S_val rfl rfl (Y_gtr_f rfl rfl (by omega)) ?_; refine S_val rfl rfl (Y_pick_f rfl rfl) ?_; refine S_mv rfl rfl rfl ?_; refine S_mv rfl rfl rfl ?_; refine S_val rfl rfl (Y_gtr_f rfl rfl (by omega)) ?_; refine S_val rfl rfl (Y_pick_f rfl rfl) ?_; refine S_nx ?_; refine T_cond_false rfl ?_; refine T_skip ?_; refine X_seq ?_; refine T_sr ?_; refine S_mv rfl rfl rfl ?_; refine S_val rfl rfl (Y_leq_t rfl rfl (by omega)) ?_; refine S_mv rfl rfl rfl ?_; refine S_mv rfl rfl rfl ?_; refine S_val rfl rfl (Y_leq_f rfl rfl (by omega)) ?_; refine S_val rfl rfl (Y_pick_t rfl rfl) ?_; refine S_mv rfl rfl rfl ?_; refine S_skip rfl rfl ?_; refine S_skip rfl rfl ?_; refine S_val rfl rfl (Y_pick_f rfl rfl) ?_; refine S_as rfl rfl rfl ?_; refine S_nx ?_; refine T_ret ?_) | (refine S_mv rfl rfl rfl ?_; refine S_val rfl rfl (Y_extract rfl rfl) ?_; refine S_val rfl rfl (Y_extract rfl rfl) ?_; refine S_as rfl rfl rfl ?_; refine S_as rfl rfl rfl ?_; refine S_nx ?_; refine T_seq ?_; refine T_sr ?_; refine S_mv rfl rfl rfl ?_; refine S_val rfl rfl (Y_not rfl rfl) ?_; refine S_mv rfl rfl rfl ?_; refine S_mv rfl rfl rfl ?_; refine S_val rfl rfl (Y_not rfl rfl) ?_; refine S_val rfl rfl (Y_pick_f rfl rfl) ?_; refine S_mv rfl rfl rfl ?_; refine S_mv rfl rfl rfl ?_; refine S_val rfl rfl (Y_not rfl rfl) ?_; refine S_val rfl rfl (Y_pick_f rfl rfl) ?_; refine S_mv rfl rfl rfl ?_; refine S_mv rfl rfl rfl ?_; refine S_val rfl rfl (Y_gtr_f rfl rfl (by omega)) ?_; refine S_val rfl rfl (Y_pick_f rfl rfl) ?_; refine S_mv rfl rfl rfl ?_; refine S_mv rfl rfl rfl ?_; refine S_val rfl rfl (Y_gtr_f rfl rfl (by omega)) ?_; refine S_val rfl rfl (Y_pick_f rfl rfl) ?_; refine S_mv rfl rfl rfl ?_; refine S_mv rfl rfl rfl ?_; refine S_val rfl rfl (Y_gtr_f rfl rfl (by omega)) ?_; refine S_val rfl rfl (Y_pick_f rfl rfl) ?_; refine S_nx ?_; refine T_cond_false rfl ?_; refine T_skip ?_; refine X_seq ?_; refine T_sr ?_; refine S_mv rfl rfl rfl ?_; refine S_val rfl rfl (Y_leq_f rfl rfl (by omega)) ?_; refine S_mv rfl rfl rfl ?_; refine S_skip rfl rfl ?_; refine S_skip rfl rfl ?_; refine S_val rfl rfl (Y_pick_f rfl rfl) ?_; refine S_mv rfl rfl rfl ?_; refine S_skip rfl rfl ?_; refine S_skip rfl rfl ?_; refine S_val rfl rfl (Y_pick_f rfl rfl) ?_; refine S_as rfl rfl rfl ?_; refine S_nx ?_; refine T_ret ?_)
          ((first | refine X_fin_ret ?_ | refine X_fin ?_); exact ⟨[_], [], .cons (.tmp rfl) .nil, Emb.nil _, ⟨_, rfl⟩, rfl⟩)
theorem prun_low (q : Int) (n x p gas : Nat) (hp : priceN q n x = p) (hx : x < 256 ^ n) (hn : n ≤ 1000000) (hpl : p < 18446744073709551616) (hg : gas < p) (v : Value) (w : World) (hr : Rd w v .u8 (bel n x)) : Fn Tryd.prog 6 #[.int .i64 q, v, .int .u64 gas] w fun r N => r = .tuple #[.slice none 0 0, .int .u64 ((0 : Nat) : Int), .bool false] ∧ N = [] := by
  have pr := fun w h => price_any q n x hx hn v w h
  rw [hp] at pr
  clear hp hx
  refine Fn_of (args := [.int .i64 q, v, .int .u64 gas]) Tryd.func6 rfl Tryd.ntmps6 Tryd.results6 (by simp) ?_
  refine T_sr ?_
  refine S_as rfl rfl rfl ?_
  refine S_as rfl rfl rfl ?_
  refine S_as rfl rfl rfl ?_
  refine S_nx ?_
  refine T_sr ?_
  refine S_mv rfl rfl rfl ?_
  refine S_mv rfl rfl rfl ?_
  refine S_callV rfl rfl (bod rfl) (fun w hs => pr _ (by first | exact hs.rowRd 0 rfl | exact hs.rowRd 1 rfl | exact hs.rowRd 2 rfl | exact hs.rowRd 3 rfl | exact hs.rowRd 4 rfl | exact hs.rowRd 5 rfl | exact hs.rowRd 6 rfl | exact hs.rowRd 7 rfl | exact hs.rowRd 8 rfl | exact hs.rowRd 9 rfl | exact hs.rowRd 10 rfl | exact hs.rowRd 11 rfl | exact hs.rowRd 12 rfl | exact hs.rowRd 13 rfl | exact Rd.st (by assumption) hs)) rfl rfl ?_
  refine S_as rfl rfl rfl ?_
  refine S_nx ?_
  refine T_seq ?_
  refine T_sr ?_
  refine S_mv rfl rfl rfl ?_
  refine S_mv rfl rfl rfl ?_
  refine S_val rfl rfl (Y_gtr_t rfl rfl (by omega)) ?_
  refine S_nx ?_
  refine T_cond_true rfl ?_
  refine T_sr ?_
  refine S_as rfl rfl rfl ?_
  refine S_as rfl rfl rfl ?_
  refine S_as rfl rfl rfl ?_
  refine S_nx ?_
  refine T_ret ?_
  refine X_seq_ret ?_
  ((first | refine X_fin_ret ?_ | refine X_fin ?_); exact ⟨[_, _, _], [], .cons (.tmp rfl) (.cons (.tmp rfl) (.cons (.tmp rfl) .nil)), Emb.nil _, rfl, rfl⟩)
theorem prun_none (q : Int) (n x gas : Nat) (h : q ≠ 2 ∧ q ≠ 4 ∧ q ≠ 5) (hx : x < 256 ^ n) (hn : n ≤ 1000000) (hg : gas < 18446744073709551616) (v : Value) (w : World) (hr : Rd w v .u8 (bel n x)) : Fn Tryd.prog 6 #[.int .i64 q, v, .int .u64 gas] w fun r N => r = .tuple #[.slice none 0 0, .int .u64 ((gas - 0 : Nat) : Int), .bool true] ∧ N = [] := by
  have pr := fun w h => price_any q n x hx hn v w h
  obtain ⟨h2, h4, h5⟩ := h
  rw [show priceN q n x = 0 by unfold priceN; rw [if_neg h2, if_neg h4, if_neg h5]] at pr
  clear hx
  refine Fn_of (args := [.int .i64 q, v, .int .u64 gas]) Tryd.func6 rfl Tryd.ntmps6 Tryd.results6 (by simp) ?_
  refine T_sr ?_
  refine S_as rfl rfl rfl ?_
  refine S_as rfl rfl rfl ?_
  refine S_as rfl rfl rfl ?_
  refine S_nx ?_
  refine T_sr ?_
  refine S_mv rfl rfl rfl ?_
  refine S_mv rfl rfl rfl ?_
  refine S_callV rfl rfl (bod rfl) (fun w hs => pr _ (by first | exact hs.rowRd 0 rfl | exact hs.rowRd 1 rfl | exact hs.rowRd 2 rfl | exact hs.rowRd 3 rfl | exact hs.rowRd 4 rfl | exact hs.rowRd 5 rfl | exact hs.rowRd 6 rfl | exact hs.rowRd 7 rfl | exact hs.rowRd 8 rfl | exact hs.rowRd 9 rfl | exact hs.rowRd 10 rfl | exact hs.rowRd 11 rfl | exact hs.rowRd 12 rfl | exact hs.rowRd 13 rfl | exact Rd.st (by assumption) hs)) rfl rfl ?_
  refine S_as rfl rfl rfl ?_
  refine S_nx ?_
  refine T_seq ?_
  refine T_sr ?_
  refine S_mv rfl rfl rfl ?_
  refine S_mv rfl rfl rfl ?_
  refine S_val rfl rfl (Y_gtr_f rfl rfl (by omega)) ?_
  refine S_nx ?_
  refine T_cond_false rfl ?_
  refine T_skip ?_
  refine X_seq ?_
  refine T_sr ?_
  refine S_as rfl rfl rfl ?_
  refine S_nx ?_
  refine T_seq ?_
  refine T_sr ?_
  refine S_mv rfl rfl rfl ?_
  refine S_nx ?_
  refine T_block ?_
  refine T_sr ?_
  refine S_val rfl rfl (Y_eql_f rfl rfl (by assumption)) ?_
  refine S_as rfl rfl rfl ?_
  refine S_nx ?_
  refine T_cond_false rfl ?_
  refine T_sr ?_
  refine S_val rfl rfl (Y_eql_f rfl rfl (by assumption)) ?_
  refine S_as rfl rfl rfl ?_
  refine S_nx ?_
  refine T_cond_false rfl ?_
  refine T_sr ?_
  refine S_val rfl rfl (Y_eql_f rfl rfl (by assumption)) ?_
  refine S_as rfl rfl rfl ?_
  refine S_nx ?_
  refine T_cond_false rfl ?_
  refine T_skip ?_
  refine X_blk ?_
  refine X_seq ?_
  refine T_sr ?_
  refine S_mv rfl rfl rfl ?_
  refine S_mv rfl rfl rfl ?_
  refine S_mv rfl rfl rfl ?_
  refine S_val rfl rfl (Y_subU rfl rfl (nat_cast _) (nat_cast _) rfl (Nat.le_of_ble_eq_true rfl) (by simp only [IntKind.bits]; assumption)) ?_
  refine S_as rfl rfl rfl ?_
  refine S_as rfl rfl rfl ?_
  refine S_as rfl rfl rfl ?_
  refine S_nx ?_
  refine T_ret ?_
  ((first | refine X_fin_ret ?_ | refine X_fin ?_); exact ⟨[_, _, _], [], .cons (.tmp rfl) (.cons (.tmp rfl) (.cons (.tmp rfl) .nil)), Emb.nil _, rfl, rfl⟩)
theorem prun_4 (n x p gas : Nat) (hp : priceN 4 n x = p) (hx : x < 256 ^ n) (hn : n ≤ 1000000) (hgl : gas < 18446744073709551616) (hg : p ≤ gas) (v : Value) (w : World) (hr : Rd w v .u8 (bel n x)) : Fn Tryd.prog 6 #[.int .i64 4, v, .int .u64 gas] w fun r N => ∃ u, r = .tuple #[u, .int .u64 ((gas - p : Nat) : Int), .bool true] ∧ N = [row .u8 (bel n x) u] := by
  have pr := fun w h => price_any 4 n x hx hn v w h
  rw [hp] at pr
  have cl := fun w h => clone_any (bel n x) (by rw [bel_length]; exact hn) v w h
  clear hp hx
  refine Fn_of (args := [.int .i64 4, v, .int .u64 gas]) Tryd.func6 rfl Tryd.ntmps6 Tryd.results6 (by simp) ?_
  refine T_sr ?_
  refine S_as rfl rfl rfl ?_
  refine S_as rfl rfl rfl ?_
  refine S_as rfl rfl rfl ?_
  refine S_nx ?_
  refine T_sr ?_
  refine S_mv rfl rfl rfl ?_
  refine S_mv rfl rfl rfl ?_
  refine S_callV rfl rfl (bod rfl) (fun w hs => pr _ (by first | exact hs.rowRd 0 rfl | exact hs.rowRd 1 rfl | exact hs.rowRd 2 rfl | exact hs.rowRd 3 rfl | exact hs.rowRd 4 rfl | exact hs.rowRd 5 rfl | exact hs.rowRd 6 rfl | exact hs.rowRd 7 rfl | exact hs.rowRd 8 rfl | exact hs.rowRd 9 rfl | exact hs.rowRd 10 rfl | exact hs.rowRd 11 rfl | exact hs.rowRd 12 rfl | exact hs.rowRd 13 rfl | exact Rd.st (by assumption) hs)) rfl rfl ?_
  refine S_as rfl rfl rfl ?_
  refine S_nx ?_
  refine T_seq ?_
  refine T_sr ?_
  refine S_mv rfl rfl rfl ?_
  refine S_mv rfl rfl rfl ?_
  refine S_val rfl rfl (Y_gtr_f rfl rfl (by omega)) ?_
  refine S_nx ?_
  refine T_cond_false rfl ?_
  refine T_skip ?_
  refine X_seq ?_
  refine T_sr ?_
  refine S_as rfl rfl rfl ?_
  refine S_nx ?_
  refine T_seq ?_
  refine T_sr ?_
  refine S_mv rfl rfl rfl ?_
  refine S_nx ?_
  refine T_block ?_
  refine T_sr ?_
  refine S_val rfl rfl (Y_eql_f rfl rfl (by decide)) ?_
  refine S_as rfl rfl rfl ?_
  refine S_nx ?_
  refine T_cond_false rfl ?_
  refine T_sr ?_
  refine S_val rfl rfl (Y_eql_t rfl rfl (by decide)) ?_
  refine S_as rfl rfl rfl ?_
  refine S_nx ?_
  refine T_cond_true rfl ?_
  refine T_region ?_
  refine S_mv rfl rfl rfl ?_
  refine S_callR _ rfl rfl (bod rfl) (fun w hs => cl _ (by first | exact hs.rowRd 0 rfl | exact hs.rowRd 1 rfl | exact hs.rowRd 2 rfl | exact hs.rowRd 3 rfl | exact hs.rowRd 4 rfl | exact hs.rowRd 5 rfl | exact hs.rowRd 6 rfl | exact hs.rowRd 7 rfl | exact hs.rowRd 8 rfl | exact hs.rowRd 9 rfl | exact hs.rowRd 10 rfl | exact hs.rowRd 11 rfl | exact hs.rowRd 12 rfl | exact hs.rowRd 13 rfl | exact Rd.st (by assumption) hs)) rfl rfl fun _ => ?_
  refine S_as rfl rfl rfl ?_
  refine S_nil ?_
  refine X_blk ?_
  refine X_seq ?_
  refine T_sr ?_
  refine S_mv rfl rfl rfl ?_
  refine S_mv rfl rfl rfl ?_
  refine S_mv rfl rfl rfl ?_
  refine S_val rfl rfl (Y_subU rfl rfl (nat_cast _) (nat_cast _) rfl (by assumption) (by simp only [IntKind.bits]; assumption)) ?_
  refine S_as rfl rfl rfl ?_
  refine S_as rfl rfl rfl ?_
  refine S_as rfl rfl rfl ?_
  refine S_nx ?_
  refine T_ret ?_
  ((first | refine X_fin_ret ?_ | refine X_fin ?_); exact ⟨[_, _, _], [_], .cons (.tmp rfl) (.cons (.tmp rfl) (.cons (.tmp rfl) .nil)), Emb.one 0 rfl, ⟨_, rfl, rfl⟩⟩)
theorem ab_bel : fillI (List.replicate 2 (0 : Int)) [(0, 97), (1, 98)] = bel 2 24930 := by decide
theorem strab : strI (bel 2 24930) = ⟨#[97, 98]⟩ := by kernel_rfl
theorem pfixed_any (w : World) : Fn Tryd.prog 5 #[] w fun v N => v = .bool true ∧ N = [] := by
  have e : priceN 4 2 24930 = 18 := rfl
  have r1 := fun v w h => prun_4 2 24930 18 20 e (by decide) (by decide) (by decide) (by decide) v w h
  have r2 := fun v w h => prun_low 4 2 24930 18 17 e (by decide) (by decide) (by decide) (by decide) v w h
  have hs := strab
  refine Fn_of (args := []) Tryd.func5 rfl Tryd.ntmps5 Tryd.results5 (by simp) ?_
  refine T_sr ?_
  refine S_as rfl rfl rfl ?_
  refine S_nx ?_
  refine T_sr ?_
  refine S_sliceR (und rfl) (siz rfl) (zer rfl) rfl rfl rfl rfl fun _ => ?_
  refine S_convB 0 (und rfl) (und rfl) rfl rfl (by decide) rfl rfl fun _ => ?_
  rw [ab_bel]
  skip
  refine S_call _ rfl rfl (bod rfl) (fun w hs => r1 _ _ (hs.rowZRd 0 rfl)) rfl rfl ?_
  rintro _ _ ⟨u, rfl, rfl⟩
  refine S_mv rfl rfl rfl ?_
  refine S_val rfl rfl (Y_extract rfl rfl) ?_
  refine S_val rfl rfl (Y_extract rfl rfl) ?_
  refine S_val rfl rfl (Y_extract rfl rfl) ?_
  refine S_as rfl rfl rfl ?_
  refine S_as rfl rfl rfl ?_
  refine S_as rfl rfl rfl ?_
  refine S_nx ?_
  refine T_sr ?_
  refine S_sliceR (und rfl) (siz rfl) (zer rfl) rfl rfl rfl rfl fun _ => ?_
  refine S_convB 2 (und rfl) (und rfl) rfl rfl (by decide) rfl rfl fun _ => ?_
  rw [ab_bel]
  skip
  refine S_callV rfl rfl (bod rfl) (fun w hs => r2 _ _ (hs.rowZRd 2 rfl)) rfl rfl ?_
  refine S_mv rfl rfl rfl ?_
  refine S_val rfl rfl (Y_extract rfl rfl) ?_
  refine S_val rfl rfl (Y_extract rfl rfl) ?_
  refine S_val rfl rfl (Y_extract rfl rfl) ?_
  refine S_as rfl rfl rfl ?_
  refine S_as rfl rfl rfl ?_
  refine S_as rfl rfl rfl ?_
  refine S_nx ?_
  refine T_sr ?_
  refine S_mv rfl rfl rfl ?_
  refine S_val rfl rfl (Y_toStr (und rfl) (und rfl) (und rfl) rfl (fun _ hs => hs.rowRd 1 rfl)) ?_
  refine S_val rfl rfl (Y_eqlT_t rfl rfl rfl) ?_
  refine S_mv rfl rfl rfl ?_
  refine S_mv rfl rfl rfl ?_
  refine S_val rfl rfl (Y_eql_t rfl rfl (by decide)) ?_
  refine S_val rfl rfl (Y_pick_t rfl rfl) ?_
  refine S_mv rfl rfl rfl ?_
  refine S_mv rfl rfl rfl ?_
  refine S_val rfl rfl (Y_pick_t rfl rfl) ?_
  refine S_mv rfl rfl rfl ?_
  refine S_mv rfl rfl rfl ?_
  refine S_val rfl rfl (Y_len rfl (und rfl) rfl) ?_
  refine S_val rfl rfl (Y_eql_t rfl rfl (by decide)) ?_
  refine S_val rfl rfl (Y_pick_t rfl rfl) ?_
  refine S_mv rfl rfl rfl ?_
  refine S_mv rfl rfl rfl ?_
  refine S_val rfl rfl (Y_eql_t rfl rfl (by decide)) ?_
  refine S_val rfl rfl (Y_pick_t rfl rfl) ?_
  refine S_mv rfl rfl rfl ?_
  refine S_mv rfl rfl rfl ?_
  refine S_val rfl rfl (Y_not rfl rfl) ?_
  refine S_val rfl rfl (Y_pick_t rfl rfl) ?_
  refine S_as rfl rfl rfl ?_
  refine S_nx ?_
  refine T_ret ?_
  ((first | refine X_fin_ret ?_ | refine X_fin ?_); exact ⟨[_], [], .cons (.tmp rfl) .nil, Emb.nil _, rfl, rfl⟩)
theorem prun_2 (n x p gas : Nat) (bs : List U8) (hbs : bel n x = byl bs) (hbl : bs.length = n) (K : List U32) (hK : K.length = 64) (hp : priceN 2 n x = p) (hx : x < 256 ^ n) (hn : n ≤ 1000000) (hgl : gas < 18446744073709551616) (hg : p ≤ gas) (v : Value) (w : World) (hgb : Rd w (.slice (some ⟨0, 0, none⟩) 64 64) .u32 (bvl K)) (hr : Rd w v .u8 (bel n x)) : Fn Tryd.prog 6 #[.int .i64 2, v, .int .u64 gas] w fun r N => ∃ b, r = .tuple #[.slice (some ⟨b, 0, none⟩) 32 32, .int .u64 ((gas - p : Nat) : Int), .bool true] ∧ N = [blk b (.cells (ints .u8 (byl (sumF K bs))) 34 (0, 0))] := by
  have pr := fun w h => price_any 2 n x hx hn v w h
  rw [hp] at pr
  have sm := fun w hg hr => sum_any K bs hK (by omega) v w hg hr
  have hol : (sumF K bs).length = 32 := outs_length _ _
  rw [← hbs] at sm
  generalize sumF K bs = Z at *
  have hz : (byl Z).length = 32 := by rw [byl_length, hol]
  clear hp hx hbs
  refine Fn_of (args := [.int .i64 2, v, .int .u64 gas]) Tryd.func6 rfl Tryd.ntmps6 Tryd.results6 (by simp) ?_
  refine T_sr ?_
  refine S_as rfl rfl rfl ?_
  refine S_as rfl rfl rfl ?_
  refine S_as rfl rfl rfl ?_
  refine S_nx ?_
  refine T_sr ?_
  refine S_mv rfl rfl rfl ?_
  refine S_mv rfl rfl rfl ?_
  refine S_callV rfl rfl (bod rfl) (fun w hs => pr _ (by first | exact hs.rowRd 0 rfl | exact hs.rowRd 1 rfl | exact hs.rowRd 2 rfl | exact hs.rowRd 3 rfl | exact hs.rowRd 4 rfl | exact hs.rowRd 5 rfl | exact hs.rowRd 6 rfl | exact hs.rowRd 7 rfl | exact hs.rowRd 8 rfl | exact hs.rowRd 9 rfl | exact hs.rowRd 10 rfl | exact hs.rowRd 11 rfl | exact hs.rowRd 12 rfl | exact hs.rowRd 13 rfl | exact Rd.st (by assumption) hs)) rfl rfl ?_
  refine S_as rfl rfl rfl ?_
  refine S_nx ?_
  refine T_seq ?_
  refine T_sr ?_
  refine S_mv rfl rfl rfl ?_
  refine S_mv rfl rfl rfl ?_
  refine S_val rfl rfl (Y_gtr_f rfl rfl (by omega)) ?_
  refine S_nx ?_
  refine T_cond_false rfl ?_
  refine T_skip ?_
  refine X_seq ?_
  refine T_sr ?_
  refine S_as rfl rfl rfl ?_
  refine S_nx ?_
  refine T_seq ?_
  refine T_sr ?_
  refine S_mv rfl rfl rfl ?_
  refine S_nx ?_
  refine T_block ?_
  refine T_sr ?_
  refine S_val rfl rfl (Y_eql_t rfl rfl (by decide)) ?_
  refine S_as rfl rfl rfl ?_
  refine S_nx ?_
  refine T_cond_true rfl ?_
  refine T_sr ?_
  refine S_mv rfl rfl rfl ?_
  refine S_callV rfl rfl (bod rfl) (fun w hs => sm _ (Rd.st hgb hs) (Rd.st hr hs)) rfl rfl ?_
  refine S_allocA (zer rfl) rfl rfl fun _ => ?_
  refine S_storeAI 0 (siz rfl) rfl rfl rfl rfl (by assumption) rfl ?_
  refine S_nx ?_
  refine T_region ?_
  refine S_val rfl rfl (Y_sliceArr (und rfl) (siz rfl) rfl) ?_
  refine S_as rfl rfl rfl ?_
  refine S_nil ?_
  refine X_blk ?_
  refine X_seq ?_
  refine T_sr ?_
  refine S_mv rfl rfl rfl ?_
  refine S_mv rfl rfl rfl ?_
  refine S_mv rfl rfl rfl ?_
  refine S_val rfl rfl (Y_subU rfl rfl (nat_cast _) (nat_cast _) rfl (by assumption) (by simp only [IntKind.bits]; assumption)) ?_
  refine S_as rfl rfl rfl ?_
  refine S_as rfl rfl rfl ?_
  refine S_as rfl rfl rfl ?_
  refine S_nx ?_
  refine T_ret ?_
  ((first | refine X_fin_ret ?_ | refine X_fin ?_); exact ⟨[_, _, _], [_], .cons (.tmp rfl) (.cons (.tmp rfl) (.cons (.tmp rfl) .nil)), Emb.one 0 rfl, ⟨_, rfl, rfl⟩⟩)
end Go.Proofs.YtjolmphkmfbpbaaDoor
