import Derived.Test.YtchoncjikdfbgaaLawMRuns
/- The law ModexpRuns hands back true. -/
namespace Go.Proofs.Ytchoncjikdfbgaa
open Go.RowKit
set_option maxRecDepth 20000
set_option maxHeartbeats 4000000

theorem modexpRuns_law (n x : Nat) (hx : x < 256 ^ n) (_hn : n ≤ 140737488355328) (v : Value) (w : World) (hr : Rd w v .u8 (bel n x)) : Fn Try.prog 10 #[v] w fun u N => u = .bool true ∧ N = [] := by
  by_cases hbig : 2000 < n
  · skip
    refine Fn_of (args := [v]) Try.func10 rfl Try.ntmps10 Try.results10 (by simp) ?_
    refine T_seq ?_
    refine T_region ?_
    refine S_val rfl rfl (Y_assign rfl) ?_
    refine S_nil ?_
    refine X_seq ?_
    refine T_seq ?_
    refine T_seq ?_
    refine T_region ?_
    refine S_val rfl rfl (Y_move rfl) ?_
    refine S_val rfl rfl (Y_lenV rfl (und rfl) rfl (fun _ hs => Rd.st (by assumption) hs) (bel_length _ _)) ?_
    refine S_val rfl rfl (Y_gtr_t rfl rfl (by omega)) ?_
    refine S_nil ?_
    refine X_seq ?_
    refine T_cond_true rfl ?_
    refine T_seq ?_
    refine T_region ?_
    refine S_callV rfl rfl (bod rfl) (fun w hs => mfixed_any _) rfl rfl ?_
    refine S_val rfl rfl (Y_assign rfl) ?_
    refine S_nil ?_
    refine X_seq ?_
    refine T_ret ?_
    refine X_seq_ret ?_
    ((first | refine X_fin_ret ?_ | refine X_fin ?_); exact ⟨[_], [], .cons (.tmp rfl) .nil, Emb.nil _, rfl, rfl⟩)
  · have hn6 : n ≤ 1000000 := by omega
    have l0 := fun w h => rlength_any n x 0 hx hn6 (by omega) v w h
    have l1 := fun w h => rlength_any n x 1 hx hn6 (by omega) v w h
    have l2 := fun w h => rlength_any n x 2 hx hn6 (by omega) v w h
    have rn := fun v w h => mrun_nil n x hx hn6 v w h
    have rl := fun v w h => mrun_long n x hx hn6 v w h
    have rp := fun v w h => mrun_pow n x hx hn6 v w h
    by_cases hA : lenN n x 0 = 0 ∧ lenN n x 2 = 0
    · have rn2 := fun v w h => rn v w h hA
      rw [if_pos (by omega), decide_eq_true (by omega)] at l0 l2
      generalize decide (lenN n x 1 < 18446744073709551616) = q at *
      generalize (if lenN n x 1 < 18446744073709551616 then lenN n x 1 else 0) = e2 at *
      clear rn rl rp
      generalize lenN n x 0 = b at *
      generalize lenN n x 2 = m at *
      obtain ⟨hb, hm⟩ := hA
      clear hx hn6
      refine Fn_of (args := [v]) Try.func10 rfl Try.ntmps10 Try.results10 (by simp) ?_
      refine T_seq ?_
      refine T_region ?_
      refine S_val rfl rfl (Y_assign rfl) ?_
      refine S_nil ?_
      refine X_seq ?_
      refine T_seq ?_
      refine T_seq ?_
      refine T_region ?_
      refine S_val rfl rfl (Y_move rfl) ?_
      refine S_val rfl rfl (Y_lenV rfl (und rfl) rfl (fun _ hs => Rd.st (by assumption) hs) (bel_length _ _)) ?_
      refine S_val rfl rfl (Y_gtr_f rfl rfl (by omega)) ?_
      refine S_nil ?_
      refine X_seq ?_
      refine T_cond_false rfl ?_
      refine T_skip ?_
      refine X_seq ?_
      refine T_seq ?_
      refine T_region ?_
      refine S_sliceR (und rfl) (siz rfl) (zer rfl) rfl rfl rfl rfl fun _ => ?_
      refine S_val rfl rfl (Y_move rfl) ?_
      refine S_append 0 rfl (und rfl) (und rfl) (siz rfl) (byt rfl) (zer rfl) rfl rfl rfl (fun _ hs => Rd.st (by assumption) hs) (by simp; omega) rfl rfl rfl fun _ => ?_
      refine S_val rfl rfl (Y_assign rfl) ?_
      refine S_nil ?_
      refine X_seq ?_
      refine T_seq ?_
      refine T_region ?_
      refine S_val rfl rfl (Y_move rfl) ?_
      refine S_callV rfl rfl (bod rfl) (fun w hs => rn2 _ _ (hs.rowRd 0 rfl)) rfl rfl ?_
      refine S_val rfl rfl (Y_move rfl) ?_
      refine S_val rfl rfl (Y_extract rfl rfl) ?_
      refine S_val rfl rfl (Y_extract rfl rfl) ?_
      refine S_val rfl rfl (Y_assign rfl) ?_
      refine S_val rfl rfl (Y_assign rfl) ?_
      refine S_nil ?_
      refine X_seq ?_
      refine T_seq ?_
      refine T_region ?_
      refine S_val rfl rfl (Y_move rfl) ?_
      refine S_callV rfl rfl (bod rfl) (fun w hs => l0 _ (by first | exact hs.rowRd 0 rfl | exact hs.rowRd 1 rfl | exact hs.rowRd 2 rfl | exact hs.rowRd 3 rfl | exact hs.rowRd 4 rfl | exact hs.rowRd 5 rfl | exact hs.rowRd 6 rfl | exact hs.rowRd 7 rfl | exact hs.rowRd 8 rfl | exact hs.rowRd 9 rfl | exact hs.rowRd 10 rfl | exact hs.rowRd 11 rfl | exact hs.rowRd 12 rfl | exact hs.rowRd 13 rfl | exact Rd.st (by assumption) hs)) rfl rfl ?_
      refine S_val rfl rfl (Y_move rfl) ?_
      refine S_val rfl rfl (Y_extract rfl rfl) ?_
      refine S_val rfl rfl (Y_extract rfl rfl) ?_
      refine S_val rfl rfl (Y_assign rfl) ?_
      refine S_val rfl rfl (Y_assign rfl) ?_
      refine S_nil ?_
      refine X_seq ?_
      refine T_seq ?_
      refine T_region ?_
      refine S_val rfl rfl (Y_move rfl) ?_
      refine S_callV rfl rfl (bod rfl) (fun w hs => l1 _ (by first | exact hs.rowRd 0 rfl | exact hs.rowRd 1 rfl | exact hs.rowRd 2 rfl | exact hs.rowRd 3 rfl | exact hs.rowRd 4 rfl | exact hs.rowRd 5 rfl | exact hs.rowRd 6 rfl | exact hs.rowRd 7 rfl | exact hs.rowRd 8 rfl | exact hs.rowRd 9 rfl | exact hs.rowRd 10 rfl | exact hs.rowRd 11 rfl | exact hs.rowRd 12 rfl | exact hs.rowRd 13 rfl | exact Rd.st (by assumption) hs)) rfl rfl ?_
      refine S_val rfl rfl (Y_move rfl) ?_
      refine S_val rfl rfl (Y_extract rfl rfl) ?_
      refine S_val rfl rfl (Y_extract rfl rfl) ?_
      refine S_val rfl rfl (Y_assign rfl) ?_
      refine S_val rfl rfl (Y_assign rfl) ?_
      refine S_nil ?_
      refine X_seq ?_
      refine T_seq ?_
      refine T_region ?_
      refine S_val rfl rfl (Y_move rfl) ?_
      refine S_callV rfl rfl (bod rfl) (fun w hs => l2 _ (by first | exact hs.rowRd 0 rfl | exact hs.rowRd 1 rfl | exact hs.rowRd 2 rfl | exact hs.rowRd 3 rfl | exact hs.rowRd 4 rfl | exact hs.rowRd 5 rfl | exact hs.rowRd 6 rfl | exact hs.rowRd 7 rfl | exact hs.rowRd 8 rfl | exact hs.rowRd 9 rfl | exact hs.rowRd 10 rfl | exact hs.rowRd 11 rfl | exact hs.rowRd 12 rfl | exact hs.rowRd 13 rfl | exact Rd.st (by assumption) hs)) rfl rfl ?_
      refine S_val rfl rfl (Y_move rfl) ?_
      refine S_val rfl rfl (Y_extract rfl rfl) ?_
      refine S_val rfl rfl (Y_extract rfl rfl) ?_
      refine S_val rfl rfl (Y_assign rfl) ?_
      refine S_val rfl rfl (Y_assign rfl) ?_
      refine S_nil ?_
      refine X_seq ?_
      refine T_seq ?_
      refine T_seq ?_
      refine T_region ?_
      refine S_callV rfl rfl (bod rfl) (fun w hs => mfixed_any _) rfl rfl ?_
      refine S_val rfl rfl (Y_not rfl rfl) ?_
      refine S_val rfl rfl (Y_move rfl) ?_
      refine S_val rfl rfl (Y_move rfl) ?_
      refine S_val rfl rfl (Y_toStr (und rfl) (und rfl) (und rfl) rfl (fun _ hs => hs.rowRd 0 rfl)) ?_
      refine S_val rfl rfl (Y_move rfl) ?_
      refine S_val rfl rfl (Y_toStr (und rfl) (und rfl) (und rfl) rfl (fun _ hs => Rd.st (by assumption) hs)) ?_
      refine S_val rfl rfl (Y_neqT_f rfl rfl rfl) ?_
      refine S_val rfl rfl (Y_pick_f rfl rfl) ?_
      refine S_nil ?_
      refine X_seq ?_
      refine T_cond_false rfl ?_
      refine T_skip ?_
      refine X_seq ?_
      refine T_seq ?_
      refine T_seq ?_
      refine T_region ?_
      refine S_val rfl rfl (Y_move rfl) ?_
      refine S_val rfl rfl (Y_move rfl) ?_
      refine S_val rfl rfl (Y_move rfl) ?_
      refine S_val rfl rfl (Y_pick_t rfl rfl) ?_
      refine S_val rfl rfl (Y_move rfl) ?_
      refine S_val rfl rfl (Y_move rfl) ?_
      refine S_val rfl rfl (Y_eql_t rfl rfl (by omega)) ?_
      refine S_val rfl rfl (Y_pick_t rfl rfl) ?_
      refine S_val rfl rfl (Y_move rfl) ?_
      refine S_val rfl rfl (Y_move rfl) ?_
      refine S_val rfl rfl (Y_eql_t rfl rfl (by omega)) ?_
      refine S_val rfl rfl (Y_pick_t rfl rfl) ?_
      refine S_nil ?_
      refine X_seq ?_
      refine T_cond_true rfl ?_
      refine T_seq ?_
      refine T_region ?_
      refine S_val rfl rfl (Y_move rfl) ?_
      refine S_val rfl rfl (Y_len rfl (und rfl) rfl) ?_
      refine S_val rfl rfl (Y_eql_t rfl rfl (by decide)) ?_
      refine S_val rfl rfl (Y_move rfl) ?_
      refine S_val rfl rfl (Y_move rfl) ?_
      refine S_val rfl rfl (Y_eql_t rfl rfl (by decide)) ?_
      refine S_val rfl rfl (Y_pick_t rfl rfl) ?_
      refine S_val rfl rfl (Y_assign rfl) ?_
      refine S_nil ?_
      refine X_seq ?_
      refine T_ret ?_
      refine X_seq_ret ?_
      ((first | refine X_fin_ret ?_ | refine X_fin ?_); exact ⟨[_], [], .cons (.tmp rfl) .nil, Emb.nil _, rfl, rfl⟩)
    · by_cases hl : 64 < lenN n x 0 ∨ 64 < lenN n x 1 ∨ 64 < lenN n x 2
      · have rl2 := fun v w h => rl v w h hA hl
        clear rn rl rp
        generalize lenN n x 0 = b at *
        generalize lenN n x 1 = e at *
        generalize lenN n x 2 = m at *
        have tr : ∀ {k z : Nat}, z < 18446744073709551616 → (∀ w, Rd w v .u8 (bel n x) → Fn Try.prog 42 #[v, .int .i64 (k : Nat)] w fun u N => u = .tuple #[.int .u64 ((if z < 18446744073709551616 then z else 0 : Nat) : Int), .bool (decide (z < 18446744073709551616))] ∧ N = []) → ∀ w, Rd w v .u8 (bel n x) → Fn Try.prog 42 #[v, .int .i64 (k : Nat)] w fun u N => u = .tuple #[.int .u64 z, .bool true] ∧ N = [] := fun h g w hr => by
          have := g w hr
          rwa [if_pos h, decide_eq_true h] at this
        have fl : ∀ {k z : Nat}, ¬ z < 18446744073709551616 → (∀ w, Rd w v .u8 (bel n x) → Fn Try.prog 42 #[v, .int .i64 (k : Nat)] w fun u N => u = .tuple #[.int .u64 ((if z < 18446744073709551616 then z else 0 : Nat) : Int), .bool (decide (z < 18446744073709551616))] ∧ N = []) → ∀ w, Rd w v .u8 (bel n x) → Fn Try.prog 42 #[v, .int .i64 (k : Nat)] w fun u N => u = .tuple #[.int .u64 ((0 : Nat) : Int), .bool false] ∧ N = [] := fun h g w hr => by
          have := g w hr
          rwa [if_neg h, decide_eq_false h] at this
        by_cases hb : b < 18446744073709551616
        · replace l0 := tr hb l0
          by_cases he : e < 18446744073709551616
          · replace l1 := tr he l1
            by_cases hm : m < 18446744073709551616
            · replace l2 := tr hm l2
              rcases (show (64 < b ∧ ¬ b = 0) ∨ (¬ 64 < b ∧ 64 < e ∧ ¬ b = 0) ∨ (¬ 64 < b ∧ 64 < e ∧ b = 0 ∧ ¬ m = 0) ∨ (¬ 64 < b ∧ ¬ 64 < e ∧ 64 < m ∧ ¬ b = 0) ∨ (¬ 64 < b ∧ ¬ 64 < e ∧ 64 < m ∧ b = 0 ∧ ¬ m = 0) by omega) with ⟨g1, g2⟩ | ⟨g1, g2, g3⟩ | ⟨g1, g2, g3, g4⟩ | ⟨g1, g2, g3, g4⟩ | ⟨g1, g2, g3, g4, g5⟩ <;> clear tr fl hA hl hx hn6
              all_goals
                refine Fn_of (args := [v]) Try.func10 rfl Try.ntmps10 Try.results10 (by simp) ?_
                refine T_seq ?_
                refine T_region ?_
                refine S_val rfl rfl (Y_assign rfl) ?_
                refine S_nil ?_
                refine X_seq ?_
                refine T_seq ?_
                refine T_seq ?_
                refine T_region ?_
                refine S_val rfl rfl (Y_move rfl) ?_
                refine S_val rfl rfl (Y_lenV rfl (und rfl) rfl (fun _ hs => Rd.st (by assumption) hs) (bel_length _ _)) ?_
                refine S_val rfl rfl (Y_gtr_f rfl rfl (by omega)) ?_
                refine S_nil ?_
                refine X_seq ?_
                refine T_cond_false rfl ?_
                refine T_skip ?_
                refine X_seq ?_
                refine T_seq ?_
                refine T_region ?_
                refine S_sliceR (und rfl) (siz rfl) (zer rfl) rfl rfl rfl rfl fun _ => ?_
                refine S_val rfl rfl (Y_move rfl) ?_
                refine S_append 0 rfl (und rfl) (und rfl) (siz rfl) (byt rfl) (zer rfl) rfl rfl rfl (fun _ hs => Rd.st (by assumption) hs) (by simp; omega) rfl rfl rfl fun _ => ?_
                refine S_val rfl rfl (Y_assign rfl) ?_
                refine S_nil ?_
                refine X_seq ?_
                refine T_seq ?_
                refine T_region ?_
                refine S_val rfl rfl (Y_move rfl) ?_
                refine S_callV rfl rfl (bod rfl) (fun w hs => rl2 _ _ (hs.rowRd 0 rfl)) rfl rfl ?_
                refine S_val rfl rfl (Y_move rfl) ?_
                refine S_val rfl rfl (Y_extract rfl rfl) ?_
                refine S_val rfl rfl (Y_extract rfl rfl) ?_
                refine S_val rfl rfl (Y_assign rfl) ?_
                refine S_val rfl rfl (Y_assign rfl) ?_
                refine S_nil ?_
                refine X_seq ?_
                refine T_seq ?_
                refine T_region ?_
                refine S_val rfl rfl (Y_move rfl) ?_
                refine S_callV rfl rfl (bod rfl) (fun w hs => l0 _ (by first | exact hs.rowRd 0 rfl | exact hs.rowRd 1 rfl | exact hs.rowRd 2 rfl | exact hs.rowRd 3 rfl | exact hs.rowRd 4 rfl | exact hs.rowRd 5 rfl | exact hs.rowRd 6 rfl | exact hs.rowRd 7 rfl | exact hs.rowRd 8 rfl | exact hs.rowRd 9 rfl | exact hs.rowRd 10 rfl | exact hs.rowRd 11 rfl | exact hs.rowRd 12 rfl | exact hs.rowRd 13 rfl | exact Rd.st (by assumption) hs)) rfl rfl ?_
                refine S_val rfl rfl (Y_move rfl) ?_
                refine S_val rfl rfl (Y_extract rfl rfl) ?_
                refine S_val rfl rfl (Y_extract rfl rfl) ?_
                refine S_val rfl rfl (Y_assign rfl) ?_
                refine S_val rfl rfl (Y_assign rfl) ?_
                refine S_nil ?_
                refine X_seq ?_
                refine T_seq ?_
                refine T_region ?_
                refine S_val rfl rfl (Y_move rfl) ?_
                refine S_callV rfl rfl (bod rfl) (fun w hs => l1 _ (by first | exact hs.rowRd 0 rfl | exact hs.rowRd 1 rfl | exact hs.rowRd 2 rfl | exact hs.rowRd 3 rfl | exact hs.rowRd 4 rfl | exact hs.rowRd 5 rfl | exact hs.rowRd 6 rfl | exact hs.rowRd 7 rfl | exact hs.rowRd 8 rfl | exact hs.rowRd 9 rfl | exact hs.rowRd 10 rfl | exact hs.rowRd 11 rfl | exact hs.rowRd 12 rfl | exact hs.rowRd 13 rfl | exact Rd.st (by assumption) hs)) rfl rfl ?_
                refine S_val rfl rfl (Y_move rfl) ?_
                refine S_val rfl rfl (Y_extract rfl rfl) ?_
                refine S_val rfl rfl (Y_extract rfl rfl) ?_
                refine S_val rfl rfl (Y_assign rfl) ?_
                refine S_val rfl rfl (Y_assign rfl) ?_
                refine S_nil ?_
                refine X_seq ?_
                refine T_seq ?_
                refine T_region ?_
                refine S_val rfl rfl (Y_move rfl) ?_
                refine S_callV rfl rfl (bod rfl) (fun w hs => l2 _ (by first | exact hs.rowRd 0 rfl | exact hs.rowRd 1 rfl | exact hs.rowRd 2 rfl | exact hs.rowRd 3 rfl | exact hs.rowRd 4 rfl | exact hs.rowRd 5 rfl | exact hs.rowRd 6 rfl | exact hs.rowRd 7 rfl | exact hs.rowRd 8 rfl | exact hs.rowRd 9 rfl | exact hs.rowRd 10 rfl | exact hs.rowRd 11 rfl | exact hs.rowRd 12 rfl | exact hs.rowRd 13 rfl | exact Rd.st (by assumption) hs)) rfl rfl ?_
                refine S_val rfl rfl (Y_move rfl) ?_
                refine S_val rfl rfl (Y_extract rfl rfl) ?_
                refine S_val rfl rfl (Y_extract rfl rfl) ?_
                refine S_val rfl rfl (Y_assign rfl) ?_
                refine S_val rfl rfl (Y_assign rfl) ?_
                refine S_nil ?_
                refine X_seq ?_
                refine T_seq ?_
                refine T_seq ?_
                refine T_region ?_
                refine S_callV rfl rfl (bod rfl) (fun w hs => mfixed_any _) rfl rfl ?_
                first | (refine S_val rfl rfl (Y_not rfl rfl) ?_; refine S_val rfl rfl (Y_move rfl) ?_; refine S_val rfl rfl (Y_move rfl) ?_; refine S_val rfl rfl (Y_toStr (und rfl) (und rfl) (und rfl) rfl (fun _ hs => hs.rowRd 0 rfl)) ?_; refine S_val rfl rfl (Y_move rfl) ?_; refine S_val rfl rfl (Y_toStr (und rfl) (und rfl) (und rfl) rfl (fun _ hs => Rd.st (by assumption) hs)) ?_; refine S_val rfl rfl (Y_neqT_f rfl rfl rfl) ?_; refine S_val rfl rfl (Y_pick_f rfl rfl) ?_; refine S_nil ?_; refine X_seq ?_; refine T_cond_false rfl ?_; refine T_skip ?_; refine X_seq ?_; refine T_seq ?_; refine T_seq ?_; refine T_region ?_; refine S_val rfl rfl (Y_move rfl) ?_; refine S_val rfl rfl (Y_move rfl) ?_; refine S_val rfl rfl (Y_move rfl) ?_; refine S_val rfl rfl (Y_pick_t rfl rfl) ?_; refine S_val rfl rfl (Y_move rfl) ?_; refine S_val rfl rfl (Y_move rfl) ?_; refine S_val rfl rfl (Y_eql_t rfl rfl (by omega)) ?_; refine S_val rfl rfl (Y_pick_t rfl rfl) ?_; refine S_val rfl rfl (Y_move rfl) ?_; refine S_val rfl rfl (Y_move rfl) ?_; refine S_val rfl rfl (Y_eql_f rfl rfl (by omega)) ?_; refine S_val rfl rfl (Y_pick_t rfl rfl) ?_; refine S_nil ?_; refine X_seq ?_; refine T_cond_false rfl ?_; refine T_skip ?_; refine X_seq ?_; refine T_seq ?_; refine T_seq ?_; refine T_region ?_; refine S_val rfl rfl (Y_move rfl) ?_; refine S_val rfl rfl (Y_not rfl rfl) ?_; refine S_val rfl rfl (Y_move rfl) ?_; refine S_val rfl rfl (Y_move rfl) ?_; refine S_val rfl rfl (Y_not rfl rfl) ?_; refine S_val rfl rfl (Y_pick_f rfl rfl) ?_; refine S_val rfl rfl (Y_move rfl) ?_; refine S_val rfl rfl (Y_move rfl) ?_; refine S_val rfl rfl (Y_not rfl rfl) ?_; refine S_val rfl rfl (Y_pick_f rfl rfl) ?_; refine S_val rfl rfl (Y_move rfl) ?_; refine S_val rfl rfl (Y_move rfl) ?_; refine S_val rfl rfl (Y_gtr_f rfl rfl (by omega)) ?_; refine S_val rfl rfl (Y_pick_f rfl rfl) ?_; refine S_val rfl rfl (Y_move rfl) ?_; refine S_val rfl rfl (Y_move rfl) ?_; refine S_val rfl rfl (Y_gtr_t rfl rfl (by omega)) ?_; refine S_val rfl rfl (Y_pick_f rfl rfl) ?_; refine S_val rfl rfl (Y_move rfl) ?_; refine S_skip rfl rfl ?_; refine S_skip rfl rfl ?_; refine S_val rfl rfl (Y_pick_t rfl rfl) ?_; refine S_nil ?_; refine X_seq ?_; refine T_cond_true rfl ?_; refine T_seq ?_; refine T_region ?_; refine S_val rfl rfl (Y_move rfl) ?_; refine S_val rfl rfl (Y_len rfl (und rfl) rfl) ?_; refine S_val rfl rfl (Y_eql_t rfl rfl (by decide)) ?_; refine S_val rfl rfl (Y_move rfl) ?_; refine S_val rfl rfl (Y_move rfl) ?_; refine S_val rfl rfl (Y_eql_t rfl rfl (by decide)) ?_; refine S_val rfl rfl (Y_pick_t rfl rfl) ?_; refine S_val rfl rfl (Y_assign rfl) ?_; refine S_nil ?_; refine X_seq ?_; refine T_ret ?_; refine X_seq_ret ?_) | (refine S_val rfl rfl (Y_not rfl rfl) ?_; refine S_val rfl rfl (Y_move rfl) ?_; refine S_val rfl rfl (Y_move rfl) ?_; refine S_val rfl rfl (Y_toStr (und rfl) (und rfl) (und rfl) rfl (fun _ hs => hs.rowRd 0 rfl)) ?_; refine S_val rfl rfl (Y_move rfl) ?_; refine S_val rfl rfl (Y_toStr (und rfl) (und rfl) (und rfl) rfl (fun _ hs => Rd.st (by assumption) hs)) ?_; refine S_val rfl rfl (Y_neqT_f rfl rfl rfl) ?_; refine S_val rfl rfl (Y_pick_f rfl rfl) ?_; refine S_nil ?_; refine X_seq ?_; refine T_cond_false rfl ?_; refine T_skip ?_; refine X_seq ?_; refine T_seq ?_; refine T_seq ?_; refine T_region ?_; refine S_val rfl rfl (Y_move rfl) ?_; refine S_val rfl rfl (Y_move rfl) ?_; refine S_val rfl rfl (Y_move rfl) ?_; refine S_val rfl rfl (Y_pick_t rfl rfl) ?_; refine S_val rfl rfl (Y_move rfl) ?_; refine S_val rfl rfl (Y_move rfl) ?_; refine S_val rfl rfl (Y_eql_t rfl rfl (by omega)) ?_; refine S_val rfl rfl (Y_pick_t rfl rfl) ?_; refine S_val rfl rfl (Y_move rfl) ?_; refine S_val rfl rfl (Y_move rfl) ?_; refine S_val rfl rfl (Y_eql_f rfl rfl (by omega)) ?_; refine S_val rfl rfl (Y_pick_t rfl rfl) ?_; refine S_nil ?_; refine X_seq ?_; refine T_cond_false rfl ?_; refine T_skip ?_; refine X_seq ?_; refine T_seq ?_; refine T_seq ?_; refine T_region ?_; refine S_val rfl rfl (Y_move rfl) ?_; refine S_val rfl rfl (Y_not rfl rfl) ?_; refine S_val rfl rfl (Y_move rfl) ?_; refine S_val rfl rfl (Y_move rfl) ?_; refine S_val rfl rfl (Y_not rfl rfl) ?_; refine S_val rfl rfl (Y_pick_f rfl rfl) ?_; refine S_val rfl rfl (Y_move rfl) ?_; refine S_val rfl rfl (Y_move rfl) ?_; refine S_val rfl rfl (Y_not rfl rfl) ?_; refine S_val rfl rfl (Y_pick_f rfl rfl) ?_; refine S_val rfl rfl (Y_move rfl) ?_; refine S_val rfl rfl (Y_move rfl) ?_; refine S_val rfl rfl (Y_gtr_f rfl rfl (by omega)) ?_; refine S_val rfl rfl (Y_pick_f rfl rfl) ?_; refine S_val rfl rfl (Y_move rfl) ?_; refine S_val rfl rfl (Y_move rfl) ?_; refine S_val rfl rfl (Y_gtr_f rfl rfl (by omega)) ?_; refine S_val rfl rfl (Y_pick_f rfl rfl) ?_; refine S_val rfl rfl (Y_move rfl) ?_; refine S_val rfl rfl (Y_move rfl) ?_; refine S_val rfl rfl (Y_gtr_t rfl rfl (by omega)) ?_; refine S_val rfl rfl (Y_pick_f rfl rfl) ?_; refine S_nil ?_; refine X_seq ?_; refine T_cond_true rfl ?_; refine T_seq ?_; refine T_region ?_; refine S_val rfl rfl (Y_move rfl) ?_; refine S_val rfl rfl (Y_len rfl (und rfl) rfl) ?_; refine S_val rfl rfl (Y_eql_t rfl rfl (by decide)) ?_; refine S_val rfl rfl (Y_move rfl) ?_; refine S_val rfl rfl (Y_move rfl) ?_; refine S_val rfl rfl (Y_eql_t rfl rfl (by decide)) ?_; refine S_val rfl rfl (Y_pick_t rfl rfl) ?_; refine S_val rfl rfl (Y_assign rfl) ?_; refine S_nil ?_; refine X_seq ?_; refine T_ret ?_; refine X_seq_ret ?_) | (refine S_val rfl rfl (Y_not rfl rfl) ?_; refine S_val rfl rfl (Y_move rfl) ?_; refine S_val rfl rfl (Y_move rfl) ?_; refine S_val rfl rfl (Y_toStr (und rfl) (und rfl) (und rfl) rfl (fun _ hs => hs.rowRd 0 rfl)) ?_; refine S_val rfl rfl (Y_move rfl) ?_; refine S_val rfl rfl (Y_toStr (und rfl) (und rfl) (und rfl) rfl (fun _ hs => Rd.st (by assumption) hs)) ?_; refine S_val rfl rfl (Y_neqT_f rfl rfl rfl) ?_; refine S_val rfl rfl (Y_pick_f rfl rfl) ?_; refine S_nil ?_; refine X_seq ?_; refine T_cond_false rfl ?_; refine T_skip ?_; refine X_seq ?_; refine T_seq ?_; refine T_seq ?_; refine T_region ?_; refine S_val rfl rfl (Y_move rfl) ?_; refine S_val rfl rfl (Y_move rfl) ?_; refine S_val rfl rfl (Y_move rfl) ?_; refine S_val rfl rfl (Y_pick_t rfl rfl) ?_; refine S_val rfl rfl (Y_move rfl) ?_; refine S_val rfl rfl (Y_move rfl) ?_; refine S_val rfl rfl (Y_eql_f rfl rfl (by omega)) ?_; refine S_val rfl rfl (Y_pick_t rfl rfl) ?_; refine S_val rfl rfl (Y_move rfl) ?_; refine S_skip rfl rfl ?_; refine S_skip rfl rfl ?_; refine S_val rfl rfl (Y_pick_f rfl rfl) ?_; refine S_nil ?_; refine X_seq ?_; refine T_cond_false rfl ?_; refine T_skip ?_; refine X_seq ?_; refine T_seq ?_; refine T_seq ?_; refine T_region ?_; refine S_val rfl rfl (Y_move rfl) ?_; refine S_val rfl rfl (Y_not rfl rfl) ?_; refine S_val rfl rfl (Y_move rfl) ?_; refine S_val rfl rfl (Y_move rfl) ?_; refine S_val rfl rfl (Y_not rfl rfl) ?_; refine S_val rfl rfl (Y_pick_f rfl rfl) ?_; refine S_val rfl rfl (Y_move rfl) ?_; refine S_val rfl rfl (Y_move rfl) ?_; refine S_val rfl rfl (Y_not rfl rfl) ?_; refine S_val rfl rfl (Y_pick_f rfl rfl) ?_; refine S_val rfl rfl (Y_move rfl) ?_; refine S_val rfl rfl (Y_move rfl) ?_; refine S_val rfl rfl (Y_gtr_t rfl rfl (by omega)) ?_; refine S_val rfl rfl (Y_pick_f rfl rfl) ?_; refine S_val rfl rfl (Y_move rfl) ?_; refine S_skip rfl rfl ?_; refine S_skip rfl rfl ?_; refine S_val rfl rfl (Y_pick_t rfl rfl) ?_; refine S_val rfl rfl (Y_move rfl) ?_; refine S_skip rfl rfl ?_; refine S_skip rfl rfl ?_; refine S_val rfl rfl (Y_pick_t rfl rfl) ?_; refine S_nil ?_; refine X_seq ?_; refine T_cond_true rfl ?_; refine T_seq ?_; refine T_region ?_; refine S_val rfl rfl (Y_move rfl) ?_; refine S_val rfl rfl (Y_len rfl (und rfl) rfl) ?_; refine S_val rfl rfl (Y_eql_t rfl rfl (by decide)) ?_; refine S_val rfl rfl (Y_move rfl) ?_; refine S_val rfl rfl (Y_move rfl) ?_; refine S_val rfl rfl (Y_eql_t rfl rfl (by decide)) ?_; refine S_val rfl rfl (Y_pick_t rfl rfl) ?_; refine S_val rfl rfl (Y_assign rfl) ?_; refine S_nil ?_; refine X_seq ?_; refine T_ret ?_; refine X_seq_ret ?_) | (refine S_val rfl rfl (Y_not rfl rfl) ?_; refine S_val rfl rfl (Y_move rfl) ?_; refine S_val rfl rfl (Y_move rfl) ?_; refine S_val rfl rfl (Y_toStr (und rfl) (und rfl) (und rfl) rfl (fun _ hs => hs.rowRd 0 rfl)) ?_; refine S_val rfl rfl (Y_move rfl) ?_; refine S_val rfl rfl (Y_toStr (und rfl) (und rfl) (und rfl) rfl (fun _ hs => Rd.st (by assumption) hs)) ?_; refine S_val rfl rfl (Y_neqT_f rfl rfl rfl) ?_; refine S_val rfl rfl (Y_pick_f rfl rfl) ?_; refine S_nil ?_; refine X_seq ?_; refine T_cond_false rfl ?_; refine T_skip ?_; refine X_seq ?_; refine T_seq ?_; refine T_seq ?_; refine T_region ?_; refine S_val rfl rfl (Y_move rfl) ?_; refine S_val rfl rfl (Y_move rfl) ?_; refine S_val rfl rfl (Y_move rfl) ?_; refine S_val rfl rfl (Y_pick_t rfl rfl) ?_; refine S_val rfl rfl (Y_move rfl) ?_; refine S_val rfl rfl (Y_move rfl) ?_; refine S_val rfl rfl (Y_eql_f rfl rfl (by omega)) ?_; refine S_val rfl rfl (Y_pick_t rfl rfl) ?_; refine S_val rfl rfl (Y_move rfl) ?_; refine S_skip rfl rfl ?_; refine S_skip rfl rfl ?_; refine S_val rfl rfl (Y_pick_f rfl rfl) ?_; refine S_nil ?_; refine X_seq ?_; refine T_cond_false rfl ?_; refine T_skip ?_; refine X_seq ?_; refine T_seq ?_; refine T_seq ?_; refine T_region ?_; refine S_val rfl rfl (Y_move rfl) ?_; refine S_val rfl rfl (Y_not rfl rfl) ?_; refine S_val rfl rfl (Y_move rfl) ?_; refine S_val rfl rfl (Y_move rfl) ?_; refine S_val rfl rfl (Y_not rfl rfl) ?_; refine S_val rfl rfl (Y_pick_f rfl rfl) ?_; refine S_val rfl rfl (Y_move rfl) ?_; refine S_val rfl rfl (Y_move rfl) ?_; refine S_val rfl rfl (Y_not rfl rfl) ?_; refine S_val rfl rfl (Y_pick_f rfl rfl) ?_; refine S_val rfl rfl (Y_move rfl) ?_; refine S_val rfl rfl (Y_move rfl) ?_; refine S_val rfl rfl (Y_gtr_f rfl rfl (by omega)) ?_; refine S_val rfl rfl (Y_pick_f rfl rfl) ?_; refine S_val rfl rfl (Y_move rfl) ?_; refine S_val rfl rfl (Y_move rfl) ?_; refine S_val rfl rfl (Y_gtr_t rfl rfl (by omega)) ?_; refine S_val rfl rfl (Y_pick_f rfl rfl) ?_; refine S_val rfl rfl (Y_move rfl) ?_; refine S_skip rfl rfl ?_; refine S_skip rfl rfl ?_; refine S_val rfl rfl (Y_pick_t rfl rfl) ?_; refine S_nil ?_; refine X_seq ?_; refine T_cond_true rfl ?_; refine T_seq ?_; refine T_region ?_; refine S_val rfl rfl (Y_move rfl) ?_; refine S_val rfl rfl (Y_len rfl (und rfl) rfl) ?_; refine S_val rfl rfl (Y_eql_t rfl rfl (by decide)) ?_; refine S_val rfl rfl (Y_move rfl) ?_; refine S_val rfl rfl (Y_move rfl) ?_; refine S_val rfl rfl (Y_eql_t rfl rfl (by decide)) ?_; refine S_val rfl rfl (Y_pick_t rfl rfl) ?_; refine S_val rfl rfl (Y_assign rfl) ?_; refine S_nil ?_; refine X_seq ?_; refine T_ret ?_; refine X_seq_ret ?_) | (refine S_val rfl rfl (Y_not rfl rfl) ?_; refine S_val rfl rfl (Y_move rfl) ?_; refine S_val rfl rfl (Y_move rfl) ?_; refine S_val rfl rfl (Y_toStr (und rfl) (und rfl) (und rfl) rfl (fun _ hs => hs.rowRd 0 rfl)) ?_; refine S_val rfl rfl (Y_move rfl) ?_; refine S_val rfl rfl (Y_toStr (und rfl) (und rfl) (und rfl) rfl (fun _ hs => Rd.st (by assumption) hs)) ?_; refine S_val rfl rfl (Y_neqT_f rfl rfl rfl) ?_; refine S_val rfl rfl (Y_pick_f rfl rfl) ?_; refine S_nil ?_; refine X_seq ?_; refine T_cond_false rfl ?_; refine T_skip ?_; refine X_seq ?_; refine T_seq ?_; refine T_seq ?_; refine T_region ?_; refine S_val rfl rfl (Y_move rfl) ?_; refine S_val rfl rfl (Y_move rfl) ?_; refine S_val rfl rfl (Y_move rfl) ?_; refine S_val rfl rfl (Y_pick_t rfl rfl) ?_; refine S_val rfl rfl (Y_move rfl) ?_; refine S_val rfl rfl (Y_move rfl) ?_; refine S_val rfl rfl (Y_eql_f rfl rfl (by omega)) ?_; refine S_val rfl rfl (Y_pick_t rfl rfl) ?_; refine S_val rfl rfl (Y_move rfl) ?_; refine S_skip rfl rfl ?_; refine S_skip rfl rfl ?_; refine S_val rfl rfl (Y_pick_f rfl rfl) ?_; refine S_nil ?_; refine X_seq ?_; refine T_cond_false rfl ?_; refine T_skip ?_; refine X_seq ?_; refine T_seq ?_; refine T_seq ?_; refine T_region ?_; refine S_val rfl rfl (Y_move rfl) ?_; refine S_val rfl rfl (Y_not rfl rfl) ?_; refine S_val rfl rfl (Y_move rfl) ?_; refine S_val rfl rfl (Y_move rfl) ?_; refine S_val rfl rfl (Y_not rfl rfl) ?_; refine S_val rfl rfl (Y_pick_f rfl rfl) ?_; refine S_val rfl rfl (Y_move rfl) ?_; refine S_val rfl rfl (Y_move rfl) ?_; refine S_val rfl rfl (Y_not rfl rfl) ?_; refine S_val rfl rfl (Y_pick_f rfl rfl) ?_; refine S_val rfl rfl (Y_move rfl) ?_; refine S_val rfl rfl (Y_move rfl) ?_; refine S_val rfl rfl (Y_gtr_f rfl rfl (by omega)) ?_; refine S_val rfl rfl (Y_pick_f rfl rfl) ?_; refine S_val rfl rfl (Y_move rfl) ?_; refine S_val rfl rfl (Y_move rfl) ?_; refine S_val rfl rfl (Y_gtr_f rfl rfl (by omega)) ?_; refine S_val rfl rfl (Y_pick_f rfl rfl) ?_; refine S_val rfl rfl (Y_move rfl) ?_; refine S_val rfl rfl (Y_move rfl) ?_; refine S_val rfl rfl (Y_gtr_t rfl rfl (by omega)) ?_; refine S_val rfl rfl (Y_pick_f rfl rfl) ?_; refine S_nil ?_; refine X_seq ?_; refine T_cond_true rfl ?_; refine T_seq ?_; refine T_region ?_; refine S_val rfl rfl (Y_move rfl) ?_; refine S_val rfl rfl (Y_len rfl (und rfl) rfl) ?_; refine S_val rfl rfl (Y_eql_t rfl rfl (by decide)) ?_; refine S_val rfl rfl (Y_move rfl) ?_; refine S_val rfl rfl (Y_move rfl) ?_; refine S_val rfl rfl (Y_eql_t rfl rfl (by decide)) ?_; refine S_val rfl rfl (Y_pick_t rfl rfl) ?_; refine S_val rfl rfl (Y_assign rfl) ?_; refine S_nil ?_; refine X_seq ?_; refine T_ret ?_; refine X_seq_ret ?_)
                ((first | refine X_fin_ret ?_ | refine X_fin ?_); exact ⟨[_], [], .cons (.tmp rfl) .nil, Emb.nil _, rfl, rfl⟩)
            · replace l2 := fl hm l2
              clear tr fl hA hl hx hn6
              refine Fn_of (args := [v]) Try.func10 rfl Try.ntmps10 Try.results10 (by simp) ?_
              refine T_seq ?_
              refine T_region ?_
              refine S_val rfl rfl (Y_assign rfl) ?_
              refine S_nil ?_
              refine X_seq ?_
              refine T_seq ?_
              refine T_seq ?_
              refine T_region ?_
              refine S_val rfl rfl (Y_move rfl) ?_
              refine S_val rfl rfl (Y_lenV rfl (und rfl) rfl (fun _ hs => Rd.st (by assumption) hs) (bel_length _ _)) ?_
              refine S_val rfl rfl (Y_gtr_f rfl rfl (by omega)) ?_
              refine S_nil ?_
              refine X_seq ?_
              refine T_cond_false rfl ?_
              refine T_skip ?_
              refine X_seq ?_
              refine T_seq ?_
              refine T_region ?_
              refine S_sliceR (und rfl) (siz rfl) (zer rfl) rfl rfl rfl rfl fun _ => ?_
              refine S_val rfl rfl (Y_move rfl) ?_
              refine S_append 0 rfl (und rfl) (und rfl) (siz rfl) (byt rfl) (zer rfl) rfl rfl rfl (fun _ hs => Rd.st (by assumption) hs) (by simp; omega) rfl rfl rfl fun _ => ?_
              refine S_val rfl rfl (Y_assign rfl) ?_
              refine S_nil ?_
              refine X_seq ?_
              refine T_seq ?_
              refine T_region ?_
              refine S_val rfl rfl (Y_move rfl) ?_
              refine S_callV rfl rfl (bod rfl) (fun w hs => rl2 _ _ (hs.rowRd 0 rfl)) rfl rfl ?_
              refine S_val rfl rfl (Y_move rfl) ?_
              refine S_val rfl rfl (Y_extract rfl rfl) ?_
              refine S_val rfl rfl (Y_extract rfl rfl) ?_
              refine S_val rfl rfl (Y_assign rfl) ?_
              refine S_val rfl rfl (Y_assign rfl) ?_
              refine S_nil ?_
              refine X_seq ?_
              refine T_seq ?_
              refine T_region ?_
              refine S_val rfl rfl (Y_move rfl) ?_
              refine S_callV rfl rfl (bod rfl) (fun w hs => l0 _ (by first | exact hs.rowRd 0 rfl | exact hs.rowRd 1 rfl | exact hs.rowRd 2 rfl | exact hs.rowRd 3 rfl | exact hs.rowRd 4 rfl | exact hs.rowRd 5 rfl | exact hs.rowRd 6 rfl | exact hs.rowRd 7 rfl | exact hs.rowRd 8 rfl | exact hs.rowRd 9 rfl | exact hs.rowRd 10 rfl | exact hs.rowRd 11 rfl | exact hs.rowRd 12 rfl | exact hs.rowRd 13 rfl | exact Rd.st (by assumption) hs)) rfl rfl ?_
              refine S_val rfl rfl (Y_move rfl) ?_
              refine S_val rfl rfl (Y_extract rfl rfl) ?_
              refine S_val rfl rfl (Y_extract rfl rfl) ?_
              refine S_val rfl rfl (Y_assign rfl) ?_
              refine S_val rfl rfl (Y_assign rfl) ?_
              refine S_nil ?_
              refine X_seq ?_
              refine T_seq ?_
              refine T_region ?_
              refine S_val rfl rfl (Y_move rfl) ?_
              refine S_callV rfl rfl (bod rfl) (fun w hs => l1 _ (by first | exact hs.rowRd 0 rfl | exact hs.rowRd 1 rfl | exact hs.rowRd 2 rfl | exact hs.rowRd 3 rfl | exact hs.rowRd 4 rfl | exact hs.rowRd 5 rfl | exact hs.rowRd 6 rfl | exact hs.rowRd 7 rfl | exact hs.rowRd 8 rfl | exact hs.rowRd 9 rfl | exact hs.rowRd 10 rfl | exact hs.rowRd 11 rfl | exact hs.rowRd 12 rfl | exact hs.rowRd 13 rfl | exact Rd.st (by assumption) hs)) rfl rfl ?_
              refine S_val rfl rfl (Y_move rfl) ?_
              refine S_val rfl rfl (Y_extract rfl rfl) ?_
              refine S_val rfl rfl (Y_extract rfl rfl) ?_
              refine S_val rfl rfl (Y_assign rfl) ?_
              refine S_val rfl rfl (Y_assign rfl) ?_
              refine S_nil ?_
              refine X_seq ?_
              refine T_seq ?_
              refine T_region ?_
              refine S_val rfl rfl (Y_move rfl) ?_
              refine S_callV rfl rfl (bod rfl) (fun w hs => l2 _ (by first | exact hs.rowRd 0 rfl | exact hs.rowRd 1 rfl | exact hs.rowRd 2 rfl | exact hs.rowRd 3 rfl | exact hs.rowRd 4 rfl | exact hs.rowRd 5 rfl | exact hs.rowRd 6 rfl | exact hs.rowRd 7 rfl | exact hs.rowRd 8 rfl | exact hs.rowRd 9 rfl | exact hs.rowRd 10 rfl | exact hs.rowRd 11 rfl | exact hs.rowRd 12 rfl | exact hs.rowRd 13 rfl | exact Rd.st (by assumption) hs)) rfl rfl ?_
              refine S_val rfl rfl (Y_move rfl) ?_
              refine S_val rfl rfl (Y_extract rfl rfl) ?_
              refine S_val rfl rfl (Y_extract rfl rfl) ?_
              refine S_val rfl rfl (Y_assign rfl) ?_
              refine S_val rfl rfl (Y_assign rfl) ?_
              refine S_nil ?_
              refine X_seq ?_
              refine T_seq ?_
              refine T_seq ?_
              refine T_region ?_
              refine S_callV rfl rfl (bod rfl) (fun w hs => mfixed_any _) rfl rfl ?_
              refine S_val rfl rfl (Y_not rfl rfl) ?_
              refine S_val rfl rfl (Y_move rfl) ?_
              refine S_val rfl rfl (Y_move rfl) ?_
              refine S_val rfl rfl (Y_toStr (und rfl) (und rfl) (und rfl) rfl (fun _ hs => hs.rowRd 0 rfl)) ?_
              refine S_val rfl rfl (Y_move rfl) ?_
              refine S_val rfl rfl (Y_toStr (und rfl) (und rfl) (und rfl) rfl (fun _ hs => Rd.st (by assumption) hs)) ?_
              refine S_val rfl rfl (Y_neqT_f rfl rfl rfl) ?_
              refine S_val rfl rfl (Y_pick_f rfl rfl) ?_
              refine S_nil ?_
              refine X_seq ?_
              refine T_cond_false rfl ?_
              refine T_skip ?_
              refine X_seq ?_
              refine T_seq ?_
              refine T_seq ?_
              refine T_region ?_
              refine S_val rfl rfl (Y_move rfl) ?_
              refine S_val rfl rfl (Y_move rfl) ?_
              refine S_val rfl rfl (Y_move rfl) ?_
              refine S_val rfl rfl (Y_pick_t rfl rfl) ?_
              refine S_val rfl rfl (Y_move rfl) ?_
              refine S_skip rfl rfl ?_
              refine S_skip rfl rfl ?_
              refine S_val rfl rfl (Y_pick_f rfl rfl) ?_
              refine S_val rfl rfl (Y_move rfl) ?_
              refine S_skip rfl rfl ?_
              refine S_skip rfl rfl ?_
              refine S_val rfl rfl (Y_pick_f rfl rfl) ?_
              refine S_nil ?_
              refine X_seq ?_
              refine T_cond_false rfl ?_
              refine T_skip ?_
              refine X_seq ?_
              refine T_seq ?_
              refine T_seq ?_
              refine T_region ?_
              refine S_val rfl rfl (Y_move rfl) ?_
              refine S_val rfl rfl (Y_not rfl rfl) ?_
              refine S_val rfl rfl (Y_move rfl) ?_
              refine S_val rfl rfl (Y_move rfl) ?_
              refine S_val rfl rfl (Y_not rfl rfl) ?_
              refine S_val rfl rfl (Y_pick_f rfl rfl) ?_
              refine S_val rfl rfl (Y_move rfl) ?_
              refine S_val rfl rfl (Y_move rfl) ?_
              refine S_val rfl rfl (Y_not rfl rfl) ?_
              refine S_val rfl rfl (Y_pick_f rfl rfl) ?_
              refine S_val rfl rfl (Y_move rfl) ?_
              refine S_skip rfl rfl ?_
              refine S_skip rfl rfl ?_
              refine S_val rfl rfl (Y_pick_t rfl rfl) ?_
              refine S_val rfl rfl (Y_move rfl) ?_
              refine S_skip rfl rfl ?_
              refine S_skip rfl rfl ?_
              refine S_val rfl rfl (Y_pick_t rfl rfl) ?_
              refine S_val rfl rfl (Y_move rfl) ?_
              refine S_skip rfl rfl ?_
              refine S_skip rfl rfl ?_
              refine S_val rfl rfl (Y_pick_t rfl rfl) ?_
              refine S_nil ?_
              refine X_seq ?_
              refine T_cond_true rfl ?_
              refine T_seq ?_
              refine T_region ?_
              refine S_val rfl rfl (Y_move rfl) ?_
              refine S_val rfl rfl (Y_len rfl (und rfl) rfl) ?_
              refine S_val rfl rfl (Y_eql_t rfl rfl (by decide)) ?_
              refine S_val rfl rfl (Y_move rfl) ?_
              refine S_val rfl rfl (Y_move rfl) ?_
              refine S_val rfl rfl (Y_eql_t rfl rfl (by decide)) ?_
              refine S_val rfl rfl (Y_pick_t rfl rfl) ?_
              refine S_val rfl rfl (Y_assign rfl) ?_
              refine S_nil ?_
              refine X_seq ?_
              refine T_ret ?_
              refine X_seq_ret ?_
              ((first | refine X_fin_ret ?_ | refine X_fin ?_); exact ⟨[_], [], .cons (.tmp rfl) .nil, Emb.nil _, rfl, rfl⟩)
          · replace l1 := fl he l1
            by_cases hm : m < 18446744073709551616
            · replace l2 := tr hm l2
              rcases (show ¬ b = 0 ∨ (b = 0 ∧ ¬ m = 0) by omega) with g1 | ⟨g1, g2⟩ <;> clear tr fl hA hl hx hn6
              all_goals
                refine Fn_of (args := [v]) Try.func10 rfl Try.ntmps10 Try.results10 (by simp) ?_
                refine T_seq ?_
                refine T_region ?_
                refine S_val rfl rfl (Y_assign rfl) ?_
                refine S_nil ?_
                refine X_seq ?_
                refine T_seq ?_
                refine T_seq ?_
                refine T_region ?_
                refine S_val rfl rfl (Y_move rfl) ?_
                refine S_val rfl rfl (Y_lenV rfl (und rfl) rfl (fun _ hs => Rd.st (by assumption) hs) (bel_length _ _)) ?_
                refine S_val rfl rfl (Y_gtr_f rfl rfl (by omega)) ?_
                refine S_nil ?_
                refine X_seq ?_
                refine T_cond_false rfl ?_
                refine T_skip ?_
                refine X_seq ?_
                refine T_seq ?_
                refine T_region ?_
                refine S_sliceR (und rfl) (siz rfl) (zer rfl) rfl rfl rfl rfl fun _ => ?_
                refine S_val rfl rfl (Y_move rfl) ?_
                refine S_append 0 rfl (und rfl) (und rfl) (siz rfl) (byt rfl) (zer rfl) rfl rfl rfl (fun _ hs => Rd.st (by assumption) hs) (by simp; omega) rfl rfl rfl fun _ => ?_
                refine S_val rfl rfl (Y_assign rfl) ?_
                refine S_nil ?_
                refine X_seq ?_
                refine T_seq ?_
                refine T_region ?_
                refine S_val rfl rfl (Y_move rfl) ?_
                refine S_callV rfl rfl (bod rfl) (fun w hs => rl2 _ _ (hs.rowRd 0 rfl)) rfl rfl ?_
                refine S_val rfl rfl (Y_move rfl) ?_
                refine S_val rfl rfl (Y_extract rfl rfl) ?_
                refine S_val rfl rfl (Y_extract rfl rfl) ?_
                refine S_val rfl rfl (Y_assign rfl) ?_
                refine S_val rfl rfl (Y_assign rfl) ?_
                refine S_nil ?_
                refine X_seq ?_
                refine T_seq ?_
                refine T_region ?_
                refine S_val rfl rfl (Y_move rfl) ?_
                refine S_callV rfl rfl (bod rfl) (fun w hs => l0 _ (by first | exact hs.rowRd 0 rfl | exact hs.rowRd 1 rfl | exact hs.rowRd 2 rfl | exact hs.rowRd 3 rfl | exact hs.rowRd 4 rfl | exact hs.rowRd 5 rfl | exact hs.rowRd 6 rfl | exact hs.rowRd 7 rfl | exact hs.rowRd 8 rfl | exact hs.rowRd 9 rfl | exact hs.rowRd 10 rfl | exact hs.rowRd 11 rfl | exact hs.rowRd 12 rfl | exact hs.rowRd 13 rfl | exact Rd.st (by assumption) hs)) rfl rfl ?_
                refine S_val rfl rfl (Y_move rfl) ?_
                refine S_val rfl rfl (Y_extract rfl rfl) ?_
                refine S_val rfl rfl (Y_extract rfl rfl) ?_
                refine S_val rfl rfl (Y_assign rfl) ?_
                refine S_val rfl rfl (Y_assign rfl) ?_
                refine S_nil ?_
                refine X_seq ?_
                refine T_seq ?_
                refine T_region ?_
                refine S_val rfl rfl (Y_move rfl) ?_
                refine S_callV rfl rfl (bod rfl) (fun w hs => l1 _ (by first | exact hs.rowRd 0 rfl | exact hs.rowRd 1 rfl | exact hs.rowRd 2 rfl | exact hs.rowRd 3 rfl | exact hs.rowRd 4 rfl | exact hs.rowRd 5 rfl | exact hs.rowRd 6 rfl | exact hs.rowRd 7 rfl | exact hs.rowRd 8 rfl | exact hs.rowRd 9 rfl | exact hs.rowRd 10 rfl | exact hs.rowRd 11 rfl | exact hs.rowRd 12 rfl | exact hs.rowRd 13 rfl | exact Rd.st (by assumption) hs)) rfl rfl ?_
                refine S_val rfl rfl (Y_move rfl) ?_
                refine S_val rfl rfl (Y_extract rfl rfl) ?_
                refine S_val rfl rfl (Y_extract rfl rfl) ?_
                refine S_val rfl rfl (Y_assign rfl) ?_
                refine S_val rfl rfl (Y_assign rfl) ?_
                refine S_nil ?_
                refine X_seq ?_
                refine T_seq ?_
                refine T_region ?_
                refine S_val rfl rfl (Y_move rfl) ?_
                refine S_callV rfl rfl (bod rfl) (fun w hs => l2 _ (by first | exact hs.rowRd 0 rfl | exact hs.rowRd 1 rfl | exact hs.rowRd 2 rfl | exact hs.rowRd 3 rfl | exact hs.rowRd 4 rfl | exact hs.rowRd 5 rfl | exact hs.rowRd 6 rfl | exact hs.rowRd 7 rfl | exact hs.rowRd 8 rfl | exact hs.rowRd 9 rfl | exact hs.rowRd 10 rfl | exact hs.rowRd 11 rfl | exact hs.rowRd 12 rfl | exact hs.rowRd 13 rfl | exact Rd.st (by assumption) hs)) rfl rfl ?_
                refine S_val rfl rfl (Y_move rfl) ?_
                refine S_val rfl rfl (Y_extract rfl rfl) ?_
                refine S_val rfl rfl (Y_extract rfl rfl) ?_
                refine S_val rfl rfl (Y_assign rfl) ?_
                refine S_val rfl rfl (Y_assign rfl) ?_
                refine S_nil ?_
                refine X_seq ?_
                refine T_seq ?_
                refine T_seq ?_
                refine T_region ?_
                refine S_callV rfl rfl (bod rfl) (fun w hs => mfixed_any _) rfl rfl ?_
                first | (refine S_val rfl rfl (Y_not rfl rfl) ?_; refine S_val rfl rfl (Y_move rfl) ?_; refine S_val rfl rfl (Y_move rfl) ?_; refine S_val rfl rfl (Y_toStr (und rfl) (und rfl) (und rfl) rfl (fun _ hs => hs.rowRd 0 rfl)) ?_; refine S_val rfl rfl (Y_move rfl) ?_; refine S_val rfl rfl (Y_toStr (und rfl) (und rfl) (und rfl) rfl (fun _ hs => Rd.st (by assumption) hs)) ?_; refine S_val rfl rfl (Y_neqT_f rfl rfl rfl) ?_; refine S_val rfl rfl (Y_pick_f rfl rfl) ?_; refine S_nil ?_; refine X_seq ?_; refine T_cond_false rfl ?_; refine T_skip ?_; refine X_seq ?_; refine T_seq ?_; refine T_seq ?_; refine T_region ?_; refine S_val rfl rfl (Y_move rfl) ?_; refine S_val rfl rfl (Y_move rfl) ?_; refine S_val rfl rfl (Y_move rfl) ?_; refine S_val rfl rfl (Y_pick_t rfl rfl) ?_; refine S_val rfl rfl (Y_move rfl) ?_; refine S_val rfl rfl (Y_move rfl) ?_; refine S_val rfl rfl (Y_eql_t rfl rfl (by omega)) ?_; refine S_val rfl rfl (Y_pick_t rfl rfl) ?_; refine S_val rfl rfl (Y_move rfl) ?_; refine S_val rfl rfl (Y_move rfl) ?_; refine S_val rfl rfl (Y_eql_f rfl rfl (by omega)) ?_; refine S_val rfl rfl (Y_pick_t rfl rfl) ?_; refine S_nil ?_; refine X_seq ?_; refine T_cond_false rfl ?_; refine T_skip ?_; refine X_seq ?_; refine T_seq ?_; refine T_seq ?_; refine T_region ?_; refine S_val rfl rfl (Y_move rfl) ?_; refine S_val rfl rfl (Y_not rfl rfl) ?_; refine S_val rfl rfl (Y_move rfl) ?_; refine S_val rfl rfl (Y_move rfl) ?_; refine S_val rfl rfl (Y_not rfl rfl) ?_; refine S_val rfl rfl (Y_pick_f rfl rfl) ?_; refine S_val rfl rfl (Y_move rfl) ?_; refine S_skip rfl rfl ?_; refine S_skip rfl rfl ?_; refine S_val rfl rfl (Y_pick_t rfl rfl) ?_; refine S_val rfl rfl (Y_move rfl) ?_; refine S_skip rfl rfl ?_; refine S_skip rfl rfl ?_; refine S_val rfl rfl (Y_pick_t rfl rfl) ?_; refine S_val rfl rfl (Y_move rfl) ?_; refine S_skip rfl rfl ?_; refine S_skip rfl rfl ?_; refine S_val rfl rfl (Y_pick_t rfl rfl) ?_; refine S_val rfl rfl (Y_move rfl) ?_; refine S_skip rfl rfl ?_; refine S_skip rfl rfl ?_; refine S_val rfl rfl (Y_pick_t rfl rfl) ?_; refine S_nil ?_; refine X_seq ?_; refine T_cond_true rfl ?_; refine T_seq ?_; refine T_region ?_; refine S_val rfl rfl (Y_move rfl) ?_; refine S_val rfl rfl (Y_len rfl (und rfl) rfl) ?_; refine S_val rfl rfl (Y_eql_t rfl rfl (by decide)) ?_; refine S_val rfl rfl (Y_move rfl) ?_; refine S_val rfl rfl (Y_move rfl) ?_; refine S_val rfl rfl (Y_eql_t rfl rfl (by decide)) ?_; refine S_val rfl rfl (Y_pick_t rfl rfl) ?_; refine S_val rfl rfl (Y_assign rfl) ?_; refine S_nil ?_; refine X_seq ?_; refine T_ret ?_; refine X_seq_ret ?_) | (refine S_val rfl rfl (Y_not rfl rfl) ?_; refine S_val rfl rfl (Y_move rfl) ?_; refine S_val rfl rfl (Y_move rfl) ?_; refine S_val rfl rfl (Y_toStr (und rfl) (und rfl) (und rfl) rfl (fun _ hs => hs.rowRd 0 rfl)) ?_; refine S_val rfl rfl (Y_move rfl) ?_; refine S_val rfl rfl (Y_toStr (und rfl) (und rfl) (und rfl) rfl (fun _ hs => Rd.st (by assumption) hs)) ?_; refine S_val rfl rfl (Y_neqT_f rfl rfl rfl) ?_; refine S_val rfl rfl (Y_pick_f rfl rfl) ?_; refine S_nil ?_; refine X_seq ?_; refine T_cond_false rfl ?_; refine T_skip ?_; refine X_seq ?_; refine T_seq ?_; refine T_seq ?_; refine T_region ?_; refine S_val rfl rfl (Y_move rfl) ?_; refine S_val rfl rfl (Y_move rfl) ?_; refine S_val rfl rfl (Y_move rfl) ?_; refine S_val rfl rfl (Y_pick_t rfl rfl) ?_; refine S_val rfl rfl (Y_move rfl) ?_; refine S_val rfl rfl (Y_move rfl) ?_; refine S_val rfl rfl (Y_eql_f rfl rfl (by omega)) ?_; refine S_val rfl rfl (Y_pick_t rfl rfl) ?_; refine S_val rfl rfl (Y_move rfl) ?_; refine S_skip rfl rfl ?_; refine S_skip rfl rfl ?_; refine S_val rfl rfl (Y_pick_f rfl rfl) ?_; refine S_nil ?_; refine X_seq ?_; refine T_cond_false rfl ?_; refine T_skip ?_; refine X_seq ?_; refine T_seq ?_; refine T_seq ?_; refine T_region ?_; refine S_val rfl rfl (Y_move rfl) ?_; refine S_val rfl rfl (Y_not rfl rfl) ?_; refine S_val rfl rfl (Y_move rfl) ?_; refine S_val rfl rfl (Y_move rfl) ?_; refine S_val rfl rfl (Y_not rfl rfl) ?_; refine S_val rfl rfl (Y_pick_f rfl rfl) ?_; refine S_val rfl rfl (Y_move rfl) ?_; refine S_skip rfl rfl ?_; refine S_skip rfl rfl ?_; refine S_val rfl rfl (Y_pick_t rfl rfl) ?_; refine S_val rfl rfl (Y_move rfl) ?_; refine S_skip rfl rfl ?_; refine S_skip rfl rfl ?_; refine S_val rfl rfl (Y_pick_t rfl rfl) ?_; refine S_val rfl rfl (Y_move rfl) ?_; refine S_skip rfl rfl ?_; refine S_skip rfl rfl ?_; refine S_val rfl rfl (Y_pick_t rfl rfl) ?_; refine S_val rfl rfl (Y_move rfl) ?_; refine S_skip rfl rfl ?_; refine S_skip rfl rfl ?_; refine S_val rfl rfl (Y_pick_t rfl rfl) ?_; refine S_nil ?_; refine X_seq ?_; refine T_cond_true rfl ?_; refine T_seq ?_; refine T_region ?_; refine S_val rfl rfl (Y_move rfl) ?_; refine S_val rfl rfl (Y_len rfl (und rfl) rfl) ?_; refine S_val rfl rfl (Y_eql_t rfl rfl (by decide)) ?_; refine S_val rfl rfl (Y_move rfl) ?_; refine S_val rfl rfl (Y_move rfl) ?_; refine S_val rfl rfl (Y_eql_t rfl rfl (by decide)) ?_; refine S_val rfl rfl (Y_pick_t rfl rfl) ?_; refine S_val rfl rfl (Y_assign rfl) ?_; refine S_nil ?_; refine X_seq ?_; refine T_ret ?_; refine X_seq_ret ?_)
                ((first | refine X_fin_ret ?_ | refine X_fin ?_); exact ⟨[_], [], .cons (.tmp rfl) .nil, Emb.nil _, rfl, rfl⟩)
            · replace l2 := fl hm l2
              clear tr fl hA hl hx hn6
              refine Fn_of (args := [v]) Try.func10 rfl Try.ntmps10 Try.results10 (by simp) ?_
              refine T_seq ?_
              refine T_region ?_
              refine S_val rfl rfl (Y_assign rfl) ?_
              refine S_nil ?_
              refine X_seq ?_
              refine T_seq ?_
              refine T_seq ?_
              refine T_region ?_
              refine S_val rfl rfl (Y_move rfl) ?_
              refine S_val rfl rfl (Y_lenV rfl (und rfl) rfl (fun _ hs => Rd.st (by assumption) hs) (bel_length _ _)) ?_
              refine S_val rfl rfl (Y_gtr_f rfl rfl (by omega)) ?_
              refine S_nil ?_
              refine X_seq ?_
              refine T_cond_false rfl ?_
              refine T_skip ?_
              refine X_seq ?_
              refine T_seq ?_
              refine T_region ?_
              refine S_sliceR (und rfl) (siz rfl) (zer rfl) rfl rfl rfl rfl fun _ => ?_
              refine S_val rfl rfl (Y_move rfl) ?_
              refine S_append 0 rfl (und rfl) (und rfl) (siz rfl) (byt rfl) (zer rfl) rfl rfl rfl (fun _ hs => Rd.st (by assumption) hs) (by simp; omega) rfl rfl rfl fun _ => ?_
              refine S_val rfl rfl (Y_assign rfl) ?_
              refine S_nil ?_
              refine X_seq ?_
              refine T_seq ?_
              refine T_region ?_
              refine S_val rfl rfl (Y_move rfl) ?_
              refine S_callV rfl rfl (bod rfl) (fun w hs => rl2 _ _ (hs.rowRd 0 rfl)) rfl rfl ?_
              refine S_val rfl rfl (Y_move rfl) ?_
              refine S_val rfl rfl (Y_extract rfl rfl) ?_
              refine S_val rfl rfl (Y_extract rfl rfl) ?_
              refine S_val rfl rfl (Y_assign rfl) ?_
              refine S_val rfl rfl (Y_assign rfl) ?_
              refine S_nil ?_
              refine X_seq ?_
              refine T_seq ?_
              refine T_region ?_
              refine S_val rfl rfl (Y_move rfl) ?_
              refine S_callV rfl rfl (bod rfl) (fun w hs => l0 _ (by first | exact hs.rowRd 0 rfl | exact hs.rowRd 1 rfl | exact hs.rowRd 2 rfl | exact hs.rowRd 3 rfl | exact hs.rowRd 4 rfl | exact hs.rowRd 5 rfl | exact hs.rowRd 6 rfl | exact hs.rowRd 7 rfl | exact hs.rowRd 8 rfl | exact hs.rowRd 9 rfl | exact hs.rowRd 10 rfl | exact hs.rowRd 11 rfl | exact hs.rowRd 12 rfl | exact hs.rowRd 13 rfl | exact Rd.st (by assumption) hs)) rfl rfl ?_
              refine S_val rfl rfl (Y_move rfl) ?_
              refine S_val rfl rfl (Y_extract rfl rfl) ?_
              refine S_val rfl rfl (Y_extract rfl rfl) ?_
              refine S_val rfl rfl (Y_assign rfl) ?_
              refine S_val rfl rfl (Y_assign rfl) ?_
              refine S_nil ?_
              refine X_seq ?_
              refine T_seq ?_
              refine T_region ?_
              refine S_val rfl rfl (Y_move rfl) ?_
              refine S_callV rfl rfl (bod rfl) (fun w hs => l1 _ (by first | exact hs.rowRd 0 rfl | exact hs.rowRd 1 rfl | exact hs.rowRd 2 rfl | exact hs.rowRd 3 rfl | exact hs.rowRd 4 rfl | exact hs.rowRd 5 rfl | exact hs.rowRd 6 rfl | exact hs.rowRd 7 rfl | exact hs.rowRd 8 rfl | exact hs.rowRd 9 rfl | exact hs.rowRd 10 rfl | exact hs.rowRd 11 rfl | exact hs.rowRd 12 rfl | exact hs.rowRd 13 rfl | exact Rd.st (by assumption) hs)) rfl rfl ?_
              refine S_val rfl rfl (Y_move rfl) ?_
              refine S_val rfl rfl (Y_extract rfl rfl) ?_
              refine S_val rfl rfl (Y_extract rfl rfl) ?_
              refine S_val rfl rfl (Y_assign rfl) ?_
              refine S_val rfl rfl (Y_assign rfl) ?_
              refine S_nil ?_
              refine X_seq ?_
              refine T_seq ?_
              refine T_region ?_
              refine S_val rfl rfl (Y_move rfl) ?_
              refine S_callV rfl rfl (bod rfl) (fun w hs => l2 _ (by first | exact hs.rowRd 0 rfl | exact hs.rowRd 1 rfl | exact hs.rowRd 2 rfl | exact hs.rowRd 3 rfl | exact hs.rowRd 4 rfl | exact hs.rowRd 5 rfl | exact hs.rowRd 6 rfl | exact hs.rowRd 7 rfl | exact hs.rowRd 8 rfl | exact hs.rowRd 9 rfl | exact hs.rowRd 10 rfl | exact hs.rowRd 11 rfl | exact hs.rowRd 12 rfl | exact hs.rowRd 13 rfl | exact Rd.st (by assumption) hs)) rfl rfl ?_
              refine S_val rfl rfl (Y_move rfl) ?_
              refine S_val rfl rfl (Y_extract rfl rfl) ?_
              refine S_val rfl rfl (Y_extract rfl rfl) ?_
              refine S_val rfl rfl (Y_assign rfl) ?_
              refine S_val rfl rfl (Y_assign rfl) ?_
              refine S_nil ?_
              refine X_seq ?_
              refine T_seq ?_
              refine T_seq ?_
              refine T_region ?_
              refine S_callV rfl rfl (bod rfl) (fun w hs => mfixed_any _) rfl rfl ?_
              refine S_val rfl rfl (Y_not rfl rfl) ?_
              refine S_val rfl rfl (Y_move rfl) ?_
              refine S_val rfl rfl (Y_move rfl) ?_
              refine S_val rfl rfl (Y_toStr (und rfl) (und rfl) (und rfl) rfl (fun _ hs => hs.rowRd 0 rfl)) ?_
              refine S_val rfl rfl (Y_move rfl) ?_
              refine S_val rfl rfl (Y_toStr (und rfl) (und rfl) (und rfl) rfl (fun _ hs => Rd.st (by assumption) hs)) ?_
              refine S_val rfl rfl (Y_neqT_f rfl rfl rfl) ?_
              refine S_val rfl rfl (Y_pick_f rfl rfl) ?_
              refine S_nil ?_
              refine X_seq ?_
              refine T_cond_false rfl ?_
              refine T_skip ?_
              refine X_seq ?_
              refine T_seq ?_
              refine T_seq ?_
              refine T_region ?_
              refine S_val rfl rfl (Y_move rfl) ?_
              refine S_val rfl rfl (Y_move rfl) ?_
              refine S_val rfl rfl (Y_move rfl) ?_
              refine S_val rfl rfl (Y_pick_t rfl rfl) ?_
              refine S_val rfl rfl (Y_move rfl) ?_
              refine S_skip rfl rfl ?_
              refine S_skip rfl rfl ?_
              refine S_val rfl rfl (Y_pick_f rfl rfl) ?_
              refine S_val rfl rfl (Y_move rfl) ?_
              refine S_skip rfl rfl ?_
              refine S_skip rfl rfl ?_
              refine S_val rfl rfl (Y_pick_f rfl rfl) ?_
              refine S_nil ?_
              refine X_seq ?_
              refine T_cond_false rfl ?_
              refine T_skip ?_
              refine X_seq ?_
              refine T_seq ?_
              refine T_seq ?_
              refine T_region ?_
              refine S_val rfl rfl (Y_move rfl) ?_
              refine S_val rfl rfl (Y_not rfl rfl) ?_
              refine S_val rfl rfl (Y_move rfl) ?_
              refine S_val rfl rfl (Y_move rfl) ?_
              refine S_val rfl rfl (Y_not rfl rfl) ?_
              refine S_val rfl rfl (Y_pick_f rfl rfl) ?_
              refine S_val rfl rfl (Y_move rfl) ?_
              refine S_skip rfl rfl ?_
              refine S_skip rfl rfl ?_
              refine S_val rfl rfl (Y_pick_t rfl rfl) ?_
              refine S_val rfl rfl (Y_move rfl) ?_
              refine S_skip rfl rfl ?_
              refine S_skip rfl rfl ?_
              refine S_val rfl rfl (Y_pick_t rfl rfl) ?_
              refine S_val rfl rfl (Y_move rfl) ?_
              refine S_skip rfl rfl ?_
              refine S_skip rfl rfl ?_
              refine S_val rfl rfl (Y_pick_t rfl rfl) ?_
              refine S_val rfl rfl (Y_move rfl) ?_
              refine S_skip rfl rfl ?_
              refine S_skip rfl rfl ?_
              refine S_val rfl rfl (Y_pick_t rfl rfl) ?_
              refine S_nil ?_
              refine X_seq ?_
              refine T_cond_true rfl ?_
              refine T_seq ?_
              refine T_region ?_
              refine S_val rfl rfl (Y_move rfl) ?_
              refine S_val rfl rfl (Y_len rfl (und rfl) rfl) ?_
              refine S_val rfl rfl (Y_eql_t rfl rfl (by decide)) ?_
              refine S_val rfl rfl (Y_move rfl) ?_
              refine S_val rfl rfl (Y_move rfl) ?_
              refine S_val rfl rfl (Y_eql_t rfl rfl (by decide)) ?_
              refine S_val rfl rfl (Y_pick_t rfl rfl) ?_
              refine S_val rfl rfl (Y_assign rfl) ?_
              refine S_nil ?_
              refine X_seq ?_
              refine T_ret ?_
              refine X_seq_ret ?_
              ((first | refine X_fin_ret ?_ | refine X_fin ?_); exact ⟨[_], [], .cons (.tmp rfl) .nil, Emb.nil _, rfl, rfl⟩)
        · replace l0 := fl hb l0
          generalize decide (e < 18446744073709551616) = q at *
          generalize (if e < 18446744073709551616 then e else 0) = e2 at *
          generalize decide (m < 18446744073709551616) = q2 at *
          generalize (if m < 18446744073709551616 then m else 0) = m2 at *
          clear tr fl hA hl hx hn6
          refine Fn_of (args := [v]) Try.func10 rfl Try.ntmps10 Try.results10 (by simp) ?_
          refine T_seq ?_
          refine T_region ?_
          refine S_val rfl rfl (Y_assign rfl) ?_
          refine S_nil ?_
          refine X_seq ?_
          refine T_seq ?_
          refine T_seq ?_
          refine T_region ?_
          refine S_val rfl rfl (Y_move rfl) ?_
          refine S_val rfl rfl (Y_lenV rfl (und rfl) rfl (fun _ hs => Rd.st (by assumption) hs) (bel_length _ _)) ?_
          refine S_val rfl rfl (Y_gtr_f rfl rfl (by omega)) ?_
          refine S_nil ?_
          refine X_seq ?_
          refine T_cond_false rfl ?_
          refine T_skip ?_
          refine X_seq ?_
          refine T_seq ?_
          refine T_region ?_
          refine S_sliceR (und rfl) (siz rfl) (zer rfl) rfl rfl rfl rfl fun _ => ?_
          refine S_val rfl rfl (Y_move rfl) ?_
          refine S_append 0 rfl (und rfl) (und rfl) (siz rfl) (byt rfl) (zer rfl) rfl rfl rfl (fun _ hs => Rd.st (by assumption) hs) (by simp; omega) rfl rfl rfl fun _ => ?_
          refine S_val rfl rfl (Y_assign rfl) ?_
          refine S_nil ?_
          refine X_seq ?_
          refine T_seq ?_
          refine T_region ?_
          refine S_val rfl rfl (Y_move rfl) ?_
          refine S_callV rfl rfl (bod rfl) (fun w hs => rl2 _ _ (hs.rowRd 0 rfl)) rfl rfl ?_
          refine S_val rfl rfl (Y_move rfl) ?_
          refine S_val rfl rfl (Y_extract rfl rfl) ?_
          refine S_val rfl rfl (Y_extract rfl rfl) ?_
          refine S_val rfl rfl (Y_assign rfl) ?_
          refine S_val rfl rfl (Y_assign rfl) ?_
          refine S_nil ?_
          refine X_seq ?_
          refine T_seq ?_
          refine T_region ?_
          refine S_val rfl rfl (Y_move rfl) ?_
          refine S_callV rfl rfl (bod rfl) (fun w hs => l0 _ (by first | exact hs.rowRd 0 rfl | exact hs.rowRd 1 rfl | exact hs.rowRd 2 rfl | exact hs.rowRd 3 rfl | exact hs.rowRd 4 rfl | exact hs.rowRd 5 rfl | exact hs.rowRd 6 rfl | exact hs.rowRd 7 rfl | exact hs.rowRd 8 rfl | exact hs.rowRd 9 rfl | exact hs.rowRd 10 rfl | exact hs.rowRd 11 rfl | exact hs.rowRd 12 rfl | exact hs.rowRd 13 rfl | exact Rd.st (by assumption) hs)) rfl rfl ?_
          refine S_val rfl rfl (Y_move rfl) ?_
          refine S_val rfl rfl (Y_extract rfl rfl) ?_
          refine S_val rfl rfl (Y_extract rfl rfl) ?_
          refine S_val rfl rfl (Y_assign rfl) ?_
          refine S_val rfl rfl (Y_assign rfl) ?_
          refine S_nil ?_
          refine X_seq ?_
          refine T_seq ?_
          refine T_region ?_
          refine S_val rfl rfl (Y_move rfl) ?_
          refine S_callV rfl rfl (bod rfl) (fun w hs => l1 _ (by first | exact hs.rowRd 0 rfl | exact hs.rowRd 1 rfl | exact hs.rowRd 2 rfl | exact hs.rowRd 3 rfl | exact hs.rowRd 4 rfl | exact hs.rowRd 5 rfl | exact hs.rowRd 6 rfl | exact hs.rowRd 7 rfl | exact hs.rowRd 8 rfl | exact hs.rowRd 9 rfl | exact hs.rowRd 10 rfl | exact hs.rowRd 11 rfl | exact hs.rowRd 12 rfl | exact hs.rowRd 13 rfl | exact Rd.st (by assumption) hs)) rfl rfl ?_
          refine S_val rfl rfl (Y_move rfl) ?_
          refine S_val rfl rfl (Y_extract rfl rfl) ?_
          refine S_val rfl rfl (Y_extract rfl rfl) ?_
          refine S_val rfl rfl (Y_assign rfl) ?_
          refine S_val rfl rfl (Y_assign rfl) ?_
          refine S_nil ?_
          refine X_seq ?_
          refine T_seq ?_
          refine T_region ?_
          refine S_val rfl rfl (Y_move rfl) ?_
          refine S_callV rfl rfl (bod rfl) (fun w hs => l2 _ (by first | exact hs.rowRd 0 rfl | exact hs.rowRd 1 rfl | exact hs.rowRd 2 rfl | exact hs.rowRd 3 rfl | exact hs.rowRd 4 rfl | exact hs.rowRd 5 rfl | exact hs.rowRd 6 rfl | exact hs.rowRd 7 rfl | exact hs.rowRd 8 rfl | exact hs.rowRd 9 rfl | exact hs.rowRd 10 rfl | exact hs.rowRd 11 rfl | exact hs.rowRd 12 rfl | exact hs.rowRd 13 rfl | exact Rd.st (by assumption) hs)) rfl rfl ?_
          refine S_val rfl rfl (Y_move rfl) ?_
          refine S_val rfl rfl (Y_extract rfl rfl) ?_
          refine S_val rfl rfl (Y_extract rfl rfl) ?_
          refine S_val rfl rfl (Y_assign rfl) ?_
          refine S_val rfl rfl (Y_assign rfl) ?_
          refine S_nil ?_
          refine X_seq ?_
          refine T_seq ?_
          refine T_seq ?_
          refine T_region ?_
          refine S_callV rfl rfl (bod rfl) (fun w hs => mfixed_any _) rfl rfl ?_
          refine S_val rfl rfl (Y_not rfl rfl) ?_
          refine S_val rfl rfl (Y_move rfl) ?_
          refine S_val rfl rfl (Y_move rfl) ?_
          refine S_val rfl rfl (Y_toStr (und rfl) (und rfl) (und rfl) rfl (fun _ hs => hs.rowRd 0 rfl)) ?_
          refine S_val rfl rfl (Y_move rfl) ?_
          refine S_val rfl rfl (Y_toStr (und rfl) (und rfl) (und rfl) rfl (fun _ hs => Rd.st (by assumption) hs)) ?_
          refine S_val rfl rfl (Y_neqT_f rfl rfl rfl) ?_
          refine S_val rfl rfl (Y_pick_f rfl rfl) ?_
          refine S_nil ?_
          refine X_seq ?_
          refine T_cond_false rfl ?_
          refine T_skip ?_
          refine X_seq ?_
          refine T_seq ?_
          refine T_seq ?_
          refine T_region ?_
          refine S_val rfl rfl (Y_move rfl) ?_
          refine S_val rfl rfl (Y_move rfl) ?_
          refine S_skip rfl rfl ?_
          refine S_val rfl rfl (Y_pick_f rfl rfl) ?_
          refine S_val rfl rfl (Y_move rfl) ?_
          refine S_skip rfl rfl ?_
          refine S_skip rfl rfl ?_
          refine S_val rfl rfl (Y_pick_f rfl rfl) ?_
          refine S_val rfl rfl (Y_move rfl) ?_
          refine S_skip rfl rfl ?_
          refine S_skip rfl rfl ?_
          refine S_val rfl rfl (Y_pick_f rfl rfl) ?_
          refine S_nil ?_
          refine X_seq ?_
          refine T_cond_false rfl ?_
          refine T_skip ?_
          refine X_seq ?_
          refine T_seq ?_
          refine T_seq ?_
          refine T_region ?_
          refine S_val rfl rfl (Y_move rfl) ?_
          refine S_val rfl rfl (Y_not rfl rfl) ?_
          refine S_val rfl rfl (Y_move rfl) ?_
          refine S_skip rfl rfl ?_
          refine S_skip rfl rfl ?_
          refine S_val rfl rfl (Y_pick_t rfl rfl) ?_
          refine S_val rfl rfl (Y_move rfl) ?_
          refine S_skip rfl rfl ?_
          refine S_skip rfl rfl ?_
          refine S_val rfl rfl (Y_pick_t rfl rfl) ?_
          refine S_val rfl rfl (Y_move rfl) ?_
          refine S_skip rfl rfl ?_
          refine S_skip rfl rfl ?_
          refine S_val rfl rfl (Y_pick_t rfl rfl) ?_
          refine S_val rfl rfl (Y_move rfl) ?_
          refine S_skip rfl rfl ?_
          refine S_skip rfl rfl ?_
          refine S_val rfl rfl (Y_pick_t rfl rfl) ?_
          refine S_val rfl rfl (Y_move rfl) ?_
          refine S_skip rfl rfl ?_
          refine S_skip rfl rfl ?_
          refine S_val rfl rfl (Y_pick_t rfl rfl) ?_
          refine S_nil ?_
          refine X_seq ?_
          refine T_cond_true rfl ?_
          refine T_seq ?_
          refine T_region ?_
          refine S_val rfl rfl (Y_move rfl) ?_
          refine S_val rfl rfl (Y_len rfl (und rfl) rfl) ?_
          refine S_val rfl rfl (Y_eql_t rfl rfl (by decide)) ?_
          refine S_val rfl rfl (Y_move rfl) ?_
          refine S_val rfl rfl (Y_move rfl) ?_
          refine S_val rfl rfl (Y_eql_t rfl rfl (by decide)) ?_
          refine S_val rfl rfl (Y_pick_t rfl rfl) ?_
          refine S_val rfl rfl (Y_assign rfl) ?_
          refine S_nil ?_
          refine X_seq ?_
          refine T_ret ?_
          refine X_seq_ret ?_
          ((first | refine X_fin_ret ?_ | refine X_fin ?_); exact ⟨[_], [], .cons (.tmp rfl) .nil, Emb.nil _, rfl, rfl⟩)
      · have hb : lenN n x 0 ≤ 64 := by omega
        have he : lenN n x 1 ≤ 64 := by omega
        have hm : lenN n x 2 ≤ 64 := by omega
        have rp2 := fun v w h => rp v w h hA hb he hm
        rw [if_pos (by omega), decide_eq_true (by omega)] at l0 l1 l2
        have hrd : runN n x = powN (inN n x 96 (lenN n x 0)) (inN n x (96 + lenN n x 0) (lenN n x 1)) (inN n x (96 + lenN n x 0 + lenN n x 1) (lenN n x 2)) := rfl
        have t0 := fun w h => rpart_any n x 96 (lenN n x 0) hx hn6 (by omega) (by omega) v w h
        have t1 := fun w h => rpart_any n x (96 + lenN n x 0) (lenN n x 1) hx hn6 (by omega) (by omega) v w h
        have t2 := fun w h => rpart_any n x (96 + lenN n x 0 + lenN n x 1) (lenN n x 2) hx hn6 (by omega) (by omega) v w h
        simp only [inN_bel] at t0 t1 t2
        have q0 := inN_lt n x 96 (lenN n x 0)
        have q1 := inN_lt n x (96 + lenN n x 0) (lenN n x 1)
        have q2 := inN_lt n x (96 + lenN n x 0 + lenN n x 1) (lenN n x 2)
        have pw := fun v0 v1 v2 w h0 h1 h2 => mpow_any _ _ _ _ _ _ q0 q1 q2 (by omega) (by omega) (by omega) v0 v1 v2 w h0 h1 h2
        rw [← hrd] at pw
        clear hrd q0 q1 q2 rn rl rp hl hx hn6
        generalize runN n x = z at *
        generalize inN n x 96 (lenN n x 0) = B at *
        generalize inN n x (96 + lenN n x 0) (lenN n x 1) = X at *
        generalize inN n x (96 + lenN n x 0 + lenN n x 1) (lenN n x 2) = M at *
        generalize lenN n x 0 = b at *
        generalize lenN n x 1 = e at *
        generalize lenN n x 2 = m at *
        rcases (show ¬ b = 0 ∨ (b = 0 ∧ ¬ m = 0) by omega) with g1 | ⟨g1, g2⟩ <;> clear hA
        all_goals
          refine Fn_of (args := [v]) Try.func10 rfl Try.ntmps10 Try.results10 (by simp) ?_
          refine T_seq ?_
          refine T_region ?_
          refine S_val rfl rfl (Y_assign rfl) ?_
          refine S_nil ?_
          refine X_seq ?_
          refine T_seq ?_
          refine T_seq ?_
          refine T_region ?_
          refine S_val rfl rfl (Y_move rfl) ?_
          refine S_val rfl rfl (Y_lenV rfl (und rfl) rfl (fun _ hs => Rd.st (by assumption) hs) (bel_length _ _)) ?_
          refine S_val rfl rfl (Y_gtr_f rfl rfl (by omega)) ?_
          refine S_nil ?_
          refine X_seq ?_
          refine T_cond_false rfl ?_
          refine T_skip ?_
          refine X_seq ?_
          refine T_seq ?_
          refine T_region ?_
          refine S_sliceR (und rfl) (siz rfl) (zer rfl) rfl rfl rfl rfl fun _ => ?_
          refine S_val rfl rfl (Y_move rfl) ?_
          refine S_append 0 rfl (und rfl) (und rfl) (siz rfl) (byt rfl) (zer rfl) rfl rfl rfl (fun _ hs => Rd.st (by assumption) hs) (by simp; omega) rfl rfl rfl fun _ => ?_
          refine S_val rfl rfl (Y_assign rfl) ?_
          refine S_nil ?_
          refine X_seq ?_
          refine T_seq ?_
          refine T_region ?_
          refine S_val rfl rfl (Y_move rfl) ?_
          refine S_call _ rfl rfl (bod rfl) (fun w hs => rp2 _ _ (hs.rowRd 0 rfl)) rfl rfl ?_
          rintro _ _ ⟨u, rfl, rfl⟩
          refine S_val rfl rfl (Y_move rfl) ?_
          refine S_val rfl rfl (Y_extract rfl rfl) ?_
          refine S_val rfl rfl (Y_extract rfl rfl) ?_
          refine S_val rfl rfl (Y_assign rfl) ?_
          refine S_val rfl rfl (Y_assign rfl) ?_
          refine S_nil ?_
          refine X_seq ?_
          refine T_seq ?_
          refine T_region ?_
          refine S_val rfl rfl (Y_move rfl) ?_
          refine S_callV rfl rfl (bod rfl) (fun w hs => l0 _ (by first | exact hs.rowRd 0 rfl | exact hs.rowRd 1 rfl | exact hs.rowRd 2 rfl | exact hs.rowRd 3 rfl | exact hs.rowRd 4 rfl | exact hs.rowRd 5 rfl | exact hs.rowRd 6 rfl | exact hs.rowRd 7 rfl | exact hs.rowRd 8 rfl | exact hs.rowRd 9 rfl | exact hs.rowRd 10 rfl | exact hs.rowRd 11 rfl | exact hs.rowRd 12 rfl | exact hs.rowRd 13 rfl | exact Rd.st (by assumption) hs)) rfl rfl ?_
          refine S_val rfl rfl (Y_move rfl) ?_
          refine S_val rfl rfl (Y_extract rfl rfl) ?_
          refine S_val rfl rfl (Y_extract rfl rfl) ?_
          refine S_val rfl rfl (Y_assign rfl) ?_
          refine S_val rfl rfl (Y_assign rfl) ?_
          refine S_nil ?_
          refine X_seq ?_
          refine T_seq ?_
          refine T_region ?_
          refine S_val rfl rfl (Y_move rfl) ?_
          refine S_callV rfl rfl (bod rfl) (fun w hs => l1 _ (by first | exact hs.rowRd 0 rfl | exact hs.rowRd 1 rfl | exact hs.rowRd 2 rfl | exact hs.rowRd 3 rfl | exact hs.rowRd 4 rfl | exact hs.rowRd 5 rfl | exact hs.rowRd 6 rfl | exact hs.rowRd 7 rfl | exact hs.rowRd 8 rfl | exact hs.rowRd 9 rfl | exact hs.rowRd 10 rfl | exact hs.rowRd 11 rfl | exact hs.rowRd 12 rfl | exact hs.rowRd 13 rfl | exact Rd.st (by assumption) hs)) rfl rfl ?_
          refine S_val rfl rfl (Y_move rfl) ?_
          refine S_val rfl rfl (Y_extract rfl rfl) ?_
          refine S_val rfl rfl (Y_extract rfl rfl) ?_
          refine S_val rfl rfl (Y_assign rfl) ?_
          refine S_val rfl rfl (Y_assign rfl) ?_
          refine S_nil ?_
          refine X_seq ?_
          refine T_seq ?_
          refine T_region ?_
          refine S_val rfl rfl (Y_move rfl) ?_
          refine S_callV rfl rfl (bod rfl) (fun w hs => l2 _ (by first | exact hs.rowRd 0 rfl | exact hs.rowRd 1 rfl | exact hs.rowRd 2 rfl | exact hs.rowRd 3 rfl | exact hs.rowRd 4 rfl | exact hs.rowRd 5 rfl | exact hs.rowRd 6 rfl | exact hs.rowRd 7 rfl | exact hs.rowRd 8 rfl | exact hs.rowRd 9 rfl | exact hs.rowRd 10 rfl | exact hs.rowRd 11 rfl | exact hs.rowRd 12 rfl | exact hs.rowRd 13 rfl | exact Rd.st (by assumption) hs)) rfl rfl ?_
          refine S_val rfl rfl (Y_move rfl) ?_
          refine S_val rfl rfl (Y_extract rfl rfl) ?_
          refine S_val rfl rfl (Y_extract rfl rfl) ?_
          refine S_val rfl rfl (Y_assign rfl) ?_
          refine S_val rfl rfl (Y_assign rfl) ?_
          refine S_nil ?_
          refine X_seq ?_
          refine T_seq ?_
          refine T_seq ?_
          refine T_region ?_
          refine S_callV rfl rfl (bod rfl) (fun w hs => mfixed_any _) rfl rfl ?_
          first | (refine S_val rfl rfl (Y_not rfl rfl) ?_; refine S_val rfl rfl (Y_move rfl) ?_; refine S_val rfl rfl (Y_move rfl) ?_; refine S_val rfl rfl (Y_toStr (und rfl) (und rfl) (und rfl) rfl (fun _ hs => hs.rowRd 0 rfl)) ?_; refine S_val rfl rfl (Y_move rfl) ?_; refine S_val rfl rfl (Y_toStr (und rfl) (und rfl) (und rfl) rfl (fun _ hs => Rd.st (by assumption) hs)) ?_; refine S_val rfl rfl (Y_neqT_f rfl rfl rfl) ?_; refine S_val rfl rfl (Y_pick_f rfl rfl) ?_; refine S_nil ?_; refine X_seq ?_; refine T_cond_false rfl ?_; refine T_skip ?_; refine X_seq ?_; refine T_seq ?_; refine T_seq ?_; refine T_region ?_; refine S_val rfl rfl (Y_move rfl) ?_; refine S_val rfl rfl (Y_move rfl) ?_; refine S_val rfl rfl (Y_move rfl) ?_; refine S_val rfl rfl (Y_pick_t rfl rfl) ?_; refine S_val rfl rfl (Y_move rfl) ?_; refine S_val rfl rfl (Y_move rfl) ?_; refine S_val rfl rfl (Y_eql_t rfl rfl (by omega)) ?_; refine S_val rfl rfl (Y_pick_t rfl rfl) ?_; refine S_val rfl rfl (Y_move rfl) ?_; refine S_val rfl rfl (Y_move rfl) ?_; refine S_val rfl rfl (Y_eql_f rfl rfl (by omega)) ?_; refine S_val rfl rfl (Y_pick_t rfl rfl) ?_; refine S_nil ?_; refine X_seq ?_; refine T_cond_false rfl ?_; refine T_skip ?_; refine X_seq ?_; refine T_seq ?_; refine T_seq ?_; refine T_region ?_; refine S_val rfl rfl (Y_move rfl) ?_; refine S_val rfl rfl (Y_not rfl rfl) ?_; refine S_val rfl rfl (Y_move rfl) ?_; refine S_val rfl rfl (Y_move rfl) ?_; refine S_val rfl rfl (Y_not rfl rfl) ?_; refine S_val rfl rfl (Y_pick_f rfl rfl) ?_; refine S_val rfl rfl (Y_move rfl) ?_; refine S_val rfl rfl (Y_move rfl) ?_; refine S_val rfl rfl (Y_not rfl rfl) ?_; refine S_val rfl rfl (Y_pick_f rfl rfl) ?_; refine S_val rfl rfl (Y_move rfl) ?_; refine S_val rfl rfl (Y_move rfl) ?_; refine S_val rfl rfl (Y_gtr_f rfl rfl (by omega)) ?_; refine S_val rfl rfl (Y_pick_f rfl rfl) ?_; refine S_val rfl rfl (Y_move rfl) ?_; refine S_val rfl rfl (Y_move rfl) ?_; refine S_val rfl rfl (Y_gtr_f rfl rfl (by omega)) ?_; refine S_val rfl rfl (Y_pick_f rfl rfl) ?_; refine S_val rfl rfl (Y_move rfl) ?_; refine S_val rfl rfl (Y_move rfl) ?_; refine S_val rfl rfl (Y_gtr_f rfl rfl (by omega)) ?_; refine S_val rfl rfl (Y_pick_f rfl rfl) ?_; refine S_nil ?_; refine X_seq ?_; refine T_cond_false rfl ?_; refine T_skip ?_; refine X_seq ?_; refine T_seq ?_; refine T_region ?_; refine S_val rfl rfl (Y_move rfl) ?_; refine S_val rfl rfl (Y_conv (und rfl) (und rfl) rfl (wi64 (by omega) (by omega))) ?_; refine S_val rfl rfl (Y_move rfl) ?_; refine S_val rfl rfl (Y_conv (und rfl) (und rfl) rfl (wi64 (by omega) (by omega))) ?_; refine S_val rfl rfl (Y_move rfl) ?_; refine S_val rfl rfl (Y_conv (und rfl) (und rfl) rfl (wi64 (by omega) (by omega))) ?_; refine S_val rfl rfl (Y_assign rfl) ?_; refine S_val rfl rfl (Y_assign rfl) ?_; refine S_val rfl rfl (Y_assign rfl) ?_; refine S_nil ?_; refine X_seq ?_; refine T_seq ?_; refine T_region ?_; refine S_val rfl rfl (Y_move rfl) ?_; refine S_val rfl rfl (Y_move rfl) ?_) | (refine S_val rfl rfl (Y_not rfl rfl) ?_; refine S_val rfl rfl (Y_move rfl) ?_; refine S_val rfl rfl (Y_move rfl) ?_; refine S_val rfl rfl (Y_toStr (und rfl) (und rfl) (und rfl) rfl (fun _ hs => hs.rowRd 0 rfl)) ?_; refine S_val rfl rfl (Y_move rfl) ?_; refine S_val rfl rfl (Y_toStr (und rfl) (und rfl) (und rfl) rfl (fun _ hs => Rd.st (by assumption) hs)) ?_; refine S_val rfl rfl (Y_neqT_f rfl rfl rfl) ?_; refine S_val rfl rfl (Y_pick_f rfl rfl) ?_; refine S_nil ?_; refine X_seq ?_; refine T_cond_false rfl ?_; refine T_skip ?_; refine X_seq ?_; refine T_seq ?_; refine T_seq ?_; refine T_region ?_; refine S_val rfl rfl (Y_move rfl) ?_; refine S_val rfl rfl (Y_move rfl) ?_; refine S_val rfl rfl (Y_move rfl) ?_; refine S_val rfl rfl (Y_pick_t rfl rfl) ?_; refine S_val rfl rfl (Y_move rfl) ?_; refine S_val rfl rfl (Y_move rfl) ?_; refine S_val rfl rfl (Y_eql_f rfl rfl (by omega)) ?_; refine S_val rfl rfl (Y_pick_t rfl rfl) ?_; refine S_val rfl rfl (Y_move rfl) ?_; refine S_skip rfl rfl ?_; refine S_skip rfl rfl ?_; refine S_val rfl rfl (Y_pick_f rfl rfl) ?_; refine S_nil ?_; refine X_seq ?_; refine T_cond_false rfl ?_; refine T_skip ?_; refine X_seq ?_; refine T_seq ?_; refine T_seq ?_; refine T_region ?_; refine S_val rfl rfl (Y_move rfl) ?_; refine S_val rfl rfl (Y_not rfl rfl) ?_; refine S_val rfl rfl (Y_move rfl) ?_; refine S_val rfl rfl (Y_move rfl) ?_; refine S_val rfl rfl (Y_not rfl rfl) ?_; refine S_val rfl rfl (Y_pick_f rfl rfl) ?_; refine S_val rfl rfl (Y_move rfl) ?_; refine S_val rfl rfl (Y_move rfl) ?_; refine S_val rfl rfl (Y_not rfl rfl) ?_; refine S_val rfl rfl (Y_pick_f rfl rfl) ?_; refine S_val rfl rfl (Y_move rfl) ?_; refine S_val rfl rfl (Y_move rfl) ?_; refine S_val rfl rfl (Y_gtr_f rfl rfl (by omega)) ?_; refine S_val rfl rfl (Y_pick_f rfl rfl) ?_; refine S_val rfl rfl (Y_move rfl) ?_; refine S_val rfl rfl (Y_move rfl) ?_; refine S_val rfl rfl (Y_gtr_f rfl rfl (by omega)) ?_; refine S_val rfl rfl (Y_pick_f rfl rfl) ?_; refine S_val rfl rfl (Y_move rfl) ?_; refine S_val rfl rfl (Y_move rfl) ?_; refine S_val rfl rfl (Y_gtr_f rfl rfl (by omega)) ?_; refine S_val rfl rfl (Y_pick_f rfl rfl) ?_; refine S_nil ?_; refine X_seq ?_; refine T_cond_false rfl ?_; refine T_skip ?_; refine X_seq ?_; refine T_seq ?_; refine T_region ?_; refine S_val rfl rfl (Y_move rfl) ?_; refine S_val rfl rfl (Y_conv (und rfl) (und rfl) rfl (wi64 (by omega) (by omega))) ?_; refine S_val rfl rfl (Y_move rfl) ?_; refine S_val rfl rfl (Y_conv (und rfl) (und rfl) rfl (wi64 (by omega) (by omega))) ?_; refine S_val rfl rfl (Y_move rfl) ?_; refine S_val rfl rfl (Y_conv (und rfl) (und rfl) rfl (wi64 (by omega) (by omega))) ?_; refine S_val rfl rfl (Y_assign rfl) ?_; refine S_val rfl rfl (Y_assign rfl) ?_; refine S_val rfl rfl (Y_assign rfl) ?_; refine S_nil ?_; refine X_seq ?_; refine T_seq ?_; refine T_region ?_; refine S_val rfl rfl (Y_move rfl) ?_; refine S_val rfl rfl (Y_move rfl) ?_)
          refine S_callR _ rfl rfl (bod rfl) (fun w hs => t0 _ (by first | exact hs.rowRd 0 rfl | exact hs.rowRd 1 rfl | exact hs.rowRd 2 rfl | exact hs.rowRd 3 rfl | exact hs.rowRd 4 rfl | exact hs.rowRd 5 rfl | exact hs.rowRd 6 rfl | exact hs.rowRd 7 rfl | exact hs.rowRd 8 rfl | exact hs.rowRd 9 rfl | exact hs.rowRd 10 rfl | exact hs.rowRd 11 rfl | exact hs.rowRd 12 rfl | exact hs.rowRd 13 rfl | exact Rd.st (by assumption) hs)) rfl rfl fun _ => ?_
          refine S_val rfl rfl (Y_move rfl) ?_
          refine S_val rfl rfl (Y_move rfl) ?_
          refine S_val rfl rfl (Y_addN rfl rfl (nat_lit' _) (nat_cast _) (by omega)) ?_
          refine S_val rfl rfl (Y_move rfl) ?_
          refine S_callR _ rfl rfl (bod rfl) (fun w hs => t1 _ (by first | exact hs.rowRd 0 rfl | exact hs.rowRd 1 rfl | exact hs.rowRd 2 rfl | exact hs.rowRd 3 rfl | exact hs.rowRd 4 rfl | exact hs.rowRd 5 rfl | exact hs.rowRd 6 rfl | exact hs.rowRd 7 rfl | exact hs.rowRd 8 rfl | exact hs.rowRd 9 rfl | exact hs.rowRd 10 rfl | exact hs.rowRd 11 rfl | exact hs.rowRd 12 rfl | exact hs.rowRd 13 rfl | exact Rd.st (by assumption) hs)) rfl rfl fun _ => ?_
          refine S_val rfl rfl (Y_move rfl) ?_
          refine S_val rfl rfl (Y_move rfl) ?_
          refine S_val rfl rfl (Y_addN rfl rfl (nat_lit' _) (nat_cast _) (by omega)) ?_
          refine S_val rfl rfl (Y_move rfl) ?_
          refine S_val rfl rfl (Y_addN rfl rfl (nat_cast _) (nat_cast _) (by omega)) ?_
          refine S_val rfl rfl (Y_move rfl) ?_
          refine S_callR _ rfl rfl (bod rfl) (fun w hs => t2 _ (by first | exact hs.rowRd 0 rfl | exact hs.rowRd 1 rfl | exact hs.rowRd 2 rfl | exact hs.rowRd 3 rfl | exact hs.rowRd 4 rfl | exact hs.rowRd 5 rfl | exact hs.rowRd 6 rfl | exact hs.rowRd 7 rfl | exact hs.rowRd 8 rfl | exact hs.rowRd 9 rfl | exact hs.rowRd 10 rfl | exact hs.rowRd 11 rfl | exact hs.rowRd 12 rfl | exact hs.rowRd 13 rfl | exact Rd.st (by assumption) hs)) rfl rfl fun _ => ?_
          skip
          refine S_call _ rfl rfl (bod rfl) (fun w hs => pw _ _ _ _ (hs.rowRd 2 rfl) (hs.rowRd 3 rfl) (hs.rowRd 4 rfl)) rfl rfl ?_
          rintro _ _ ⟨u2, rfl, rfl⟩
          refine S_val rfl rfl (Y_move rfl) ?_
          refine S_val rfl rfl (Y_extract rfl rfl) ?_
          refine S_val rfl rfl (Y_extract rfl rfl) ?_
          refine S_val rfl rfl (Y_assign rfl) ?_
          refine S_val rfl rfl (Y_assign rfl) ?_
          refine S_nil ?_
          refine X_seq ?_
          refine T_seq ?_
          refine T_region ?_
          refine S_val rfl rfl (Y_move rfl) ?_
          refine S_val rfl rfl (Y_eql_t rfl rfl (by decide)) ?_
          refine S_val rfl rfl (Y_move rfl) ?_
          refine S_val rfl rfl (Y_move rfl) ?_
          refine S_val rfl rfl (Y_eql_t rfl rfl (by decide)) ?_
          refine S_val rfl rfl (Y_pick_t rfl rfl) ?_
          refine S_val rfl rfl (Y_move rfl) ?_
          refine S_val rfl rfl (Y_move rfl) ?_
          refine S_val rfl rfl (Y_toStr (und rfl) (und rfl) (und rfl) rfl (fun _ hs => hs.rowRd 1 rfl)) ?_
          refine S_val rfl rfl (Y_move rfl) ?_
          refine S_val rfl rfl (Y_toStr (und rfl) (und rfl) (und rfl) rfl (fun _ hs => hs.rowRd 5 rfl)) ?_
          refine S_val rfl rfl (Y_eqlT_t rfl rfl rfl) ?_
          refine S_val rfl rfl (Y_pick_t rfl rfl) ?_
          refine S_val rfl rfl (Y_move rfl) ?_
          refine S_val rfl rfl (Y_move rfl) ?_
          refine S_val rfl rfl (Y_lenV rfl (und rfl) rfl (fun _ hs => hs.rowRd 1 rfl) (bel_length _ _)) ?_
          refine S_val rfl rfl (Y_move rfl) ?_
          refine S_val rfl rfl (Y_eql_t rfl rfl (by omega)) ?_
          refine S_val rfl rfl (Y_pick_t rfl rfl) ?_
          refine S_val rfl rfl (Y_assign rfl) ?_
          refine S_nil ?_
          refine X_seq ?_
          refine T_ret ?_
          ((first | refine X_fin_ret ?_ | refine X_fin ?_); exact ⟨[_], [], .cons (.tmp rfl) .nil, Emb.nil _, rfl, rfl⟩)
end Go.Proofs.Ytchoncjikdfbgaa
