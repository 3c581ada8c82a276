import Derived.Test.YtchoncjikdfbgaaMod5
import Derived.Test.YtchoncjikdfbgaaDraw4
/- The law ModexpPowers hands back true. -/
namespace Go.Proofs.Ytchoncjikdfbgaa
open Go.RowKit
set_option maxRecDepth 20000
set_option maxHeartbeats 4000000

theorem modexpPowers_law (i0 b : Nat) (hb : b < 256 ^ i0) (_hi : i0 ≤ 9223372036854775807) (v0 : Value) (n e : Nat) (he : e < 256 ^ n) (_hn : n ≤ 9223372036854775807) (v1 : Value) (k M : Nat) (hM : M < 256 ^ k) (_hk : k ≤ 9223372036854775807) (v2 : Value) (w : World)
    (r0 : Rd w v0 .u8 (bel i0 b)) (r1 : Rd w v1 .u8 (bel n e)) (r2 : Rd w v2 .u8 (bel k M)) : Fn Try.prog 6 #[v0, v1, v2] w fun u N => u = .bool true ∧ N = [] := by
  have lg := fun v w h h0 h1 h2 => mlong_any i0 n k _ _ _ (bel_length i0 b) (bel_length n e) (bel_length k M) v v0 v1 v2 w h h0 h1 h2
  obtain ⟨a0, c0, q0, _⟩ := r0.out
  obtain ⟨a1, c1, q1, _⟩ := r1.out
  obtain ⟨a2, c2, q2, _⟩ := r2.out
  have u0 : v0.cells = #[v0] := by rw [q0]; rfl
  have u1 : v1.cells = #[v1] := by rw [q1]; rfl
  have u2 : v2.cells = #[v2] := by rw [q2]; rfl
  clear q0 q1 q2
  by_cases hl : 64 < i0 ∨ 64 < n ∨ 64 < k
  · have p := fun w h0 h1 h2 => mpow_long i0 b n e k M hl v0 v1 v2 w h0 h1 h2
    rw [decide_eq_true hl] at lg
    refine Fn_of (args := [v0, v1, v2]) Try.func6 rfl Try.ntmps6 Try.results6 (by simp) ?_
    refine T_seq ?_
    refine T_region ?_
    refine S_val rfl rfl (Y_assign rfl) ?_
    refine S_nil ?_
    refine X_seq ?_
    refine T_seq ?_
    refine T_region ?_
    refine S_val rfl rfl (Y_move rfl) ?_
    refine S_val rfl rfl (Y_move rfl) ?_
    refine S_val rfl rfl (Y_move rfl) ?_
    refine S_callV rfl rfl (bod rfl) (fun w hs => p _ (Rd.st r0 hs) (Rd.st r1 hs) (Rd.st r2 hs)) rfl rfl ?_
    refine S_val rfl rfl (Y_move rfl) ?_
    refine S_val rfl rfl (Y_extract rfl rfl) ?_
    refine S_val rfl rfl (Y_extract rfl rfl) ?_
    refine S_val rfl rfl (Y_assign rfl) ?_
    refine S_val rfl rfl (Y_assign rfl) ?_
    refine S_nil ?_
    refine X_seq ?_
    refine T_seq ?_
    refine T_seq ?_
    refine T_region ?_
    refine S_val rfl rfl (Y_move rfl) ?_
    refine S_val rfl rfl (Y_move rfl) ?_
    refine S_val rfl rfl (Y_move rfl) ?_
    refine S_slice3 (und rfl) (siz rfl) (zer rfl) rfl rfl rfl rfl u0 u1 u2 rfl rfl fun _ => ?_
    skip
    refine S_callV rfl rfl (bod rfl) (fun w hs => lg _ _ (hs.rowRdV 0 rfl) (Rd.st r0 hs) (Rd.st r1 hs) (Rd.st r2 hs)) rfl rfl ?_
    refine S_nil ?_
    refine X_seq ?_
    refine T_cond_true rfl ?_
    refine T_seq ?_
    refine T_region ?_
    refine S_callV rfl rfl (bod rfl) (fun w hs => mfixed_any _) rfl rfl ?_
    refine S_val rfl rfl (Y_move rfl) ?_
    refine S_val rfl rfl (Y_move rfl) ?_
    refine S_val rfl rfl (Y_len rfl (und rfl) rfl) ?_
    refine S_val rfl rfl (Y_eql_t rfl rfl (by decide)) ?_
    refine S_val rfl rfl (Y_pick_t rfl rfl) ?_
    refine S_val rfl rfl (Y_move rfl) ?_
    refine S_val rfl rfl (Y_move rfl) ?_
    refine S_val rfl rfl (Y_eql_t rfl rfl (by decide)) ?_
    refine S_val rfl rfl (Y_pick_t rfl rfl) ?_
    refine S_val rfl rfl (Y_assign rfl) ?_
    refine S_nil ?_
    refine X_seq ?_
    refine T_ret ?_
    refine X_seq_ret ?_
    ((first | refine X_fin_ret ?_ | refine X_fin ?_); exact ⟨[_], [], .cons (.tmp rfl) .nil, Emb.nil _, rfl, rfl⟩)
  · have p := fun w h0 h1 h2 => mpow_any i0 b n e k M hb he hM (by omega) (by omega) (by omega) v0 v1 v2 w h0 h1 h2
    rw [decide_eq_false hl] at lg
    have rp : ∀ w, Rd w v0 .u8 (bel i0 b) → Rd w v1 .u8 (bel n e) → Rd w v2 .u8 (bel k M) → Fn Try.prog 33 #[v0, v1, v2] w fun u N => N = [row .u8 (bel k (powN b e M)) u] :=
      fun w h0 h1 h2 => r9pow_any i0 b n e k M hb he hM (by omega) (by omega) (by omega) v0 v1 v2 w h0 h1 h2
    generalize powN b e M = z at *
    by_cases hs : 20 < i0 ∨ 9 < n ∨ 9 < k
    · have hs3 : 20 < i0 ∨ (¬ 20 < i0 ∧ 9 < n) ∨ (¬ 20 < i0 ∧ ¬ 9 < n ∧ 9 < k) := by omega
      rcases hs3 with hs1 | ⟨hs1, hs2⟩ | ⟨hs1, hs2, hs3⟩
      all_goals
        refine Fn_of (args := [v0, v1, v2]) Try.func6 rfl Try.ntmps6 Try.results6 (by simp) ?_
        refine T_seq ?_
        refine T_region ?_
        refine S_val rfl rfl (Y_assign rfl) ?_
        refine S_nil ?_
        refine X_seq ?_
        refine T_seq ?_
        refine T_region ?_
        refine S_val rfl rfl (Y_move rfl) ?_
        refine S_val rfl rfl (Y_move rfl) ?_
        refine S_val rfl rfl (Y_move rfl) ?_
        refine S_call _ rfl rfl (bod rfl) (fun w hs => p _ (Rd.st r0 hs) (Rd.st r1 hs) (Rd.st r2 hs)) rfl rfl ?_
        rintro _ _ ⟨u, rfl, rfl⟩
        refine S_val rfl rfl (Y_move rfl) ?_
        refine S_val rfl rfl (Y_extract rfl rfl) ?_
        refine S_val rfl rfl (Y_extract rfl rfl) ?_
        refine S_val rfl rfl (Y_assign rfl) ?_
        refine S_val rfl rfl (Y_assign rfl) ?_
        refine S_nil ?_
        refine X_seq ?_
        refine T_seq ?_
        refine T_seq ?_
        refine T_region ?_
        refine S_val rfl rfl (Y_move rfl) ?_
        refine S_val rfl rfl (Y_move rfl) ?_
        refine S_val rfl rfl (Y_move rfl) ?_
        refine S_slice3 (und rfl) (siz rfl) (zer rfl) rfl rfl rfl rfl u0 u1 u2 rfl rfl fun _ => ?_
        skip
        refine S_callV rfl rfl (bod rfl) (fun w hs => lg _ _ (hs.rowRdV 1 rfl) (Rd.st r0 hs) (Rd.st r1 hs) (Rd.st r2 hs)) rfl rfl ?_
        first | (refine S_nil ?_; refine X_seq ?_; refine T_cond_false rfl ?_; refine T_skip ?_; refine X_seq ?_; refine T_seq ?_; refine T_seq ?_; refine T_region ?_; refine S_val rfl rfl (Y_move rfl) ?_; refine S_val rfl rfl (Y_lenV rfl (und rfl) rfl (fun _ hs => Rd.st (by assumption) hs) (bel_length _ _)) ?_; refine S_val rfl rfl (Y_gtr_t rfl rfl (by omega)) ?_; refine S_val rfl rfl (Y_move rfl) ?_; refine S_skip rfl rfl ?_; refine S_skip rfl rfl ?_; refine S_skip rfl rfl ?_; refine S_val rfl rfl (Y_pick_t rfl rfl) ?_; refine S_val rfl rfl (Y_move rfl) ?_; refine S_skip rfl rfl ?_; refine S_skip rfl rfl ?_; refine S_skip rfl rfl ?_; refine S_val rfl rfl (Y_pick_t rfl rfl) ?_; refine S_nil ?_; refine X_seq ?_; refine T_cond_true rfl ?_; refine T_seq ?_; refine T_region ?_) | (refine S_nil ?_; refine X_seq ?_; refine T_cond_false rfl ?_; refine T_skip ?_; refine X_seq ?_; refine T_seq ?_; refine T_seq ?_; refine T_region ?_; refine S_val rfl rfl (Y_move rfl) ?_; refine S_val rfl rfl (Y_lenV rfl (und rfl) rfl (fun _ hs => Rd.st (by assumption) hs) (bel_length _ _)) ?_; refine S_val rfl rfl (Y_gtr_f rfl rfl (by omega)) ?_; refine S_val rfl rfl (Y_move rfl) ?_; refine S_val rfl rfl (Y_move rfl) ?_; refine S_val rfl rfl (Y_lenV rfl (und rfl) rfl (fun _ hs => Rd.st (by assumption) hs) (bel_length _ _)) ?_; refine S_val rfl rfl (Y_gtr_t rfl rfl (by omega)) ?_; refine S_val rfl rfl (Y_pick_f rfl rfl) ?_; refine S_val rfl rfl (Y_move rfl) ?_; refine S_skip rfl rfl ?_; refine S_skip rfl rfl ?_; refine S_skip rfl rfl ?_; refine S_val rfl rfl (Y_pick_t rfl rfl) ?_; refine S_nil ?_; refine X_seq ?_; refine T_cond_true rfl ?_; refine T_seq ?_; refine T_region ?_) | (refine S_nil ?_; refine X_seq ?_; refine T_cond_false rfl ?_; refine T_skip ?_; refine X_seq ?_; refine T_seq ?_; refine T_seq ?_; refine T_region ?_; refine S_val rfl rfl (Y_move rfl) ?_; refine S_val rfl rfl (Y_lenV rfl (und rfl) rfl (fun _ hs => Rd.st (by assumption) hs) (bel_length _ _)) ?_; refine S_val rfl rfl (Y_gtr_f rfl rfl (by omega)) ?_; refine S_val rfl rfl (Y_move rfl) ?_; refine S_val rfl rfl (Y_move rfl) ?_; refine S_val rfl rfl (Y_lenV rfl (und rfl) rfl (fun _ hs => Rd.st (by assumption) hs) (bel_length _ _)) ?_; refine S_val rfl rfl (Y_gtr_f rfl rfl (by omega)) ?_; refine S_val rfl rfl (Y_pick_f rfl rfl) ?_; refine S_val rfl rfl (Y_move rfl) ?_; refine S_val rfl rfl (Y_move rfl) ?_; refine S_val rfl rfl (Y_lenV rfl (und rfl) rfl (fun _ hs => Rd.st (by assumption) hs) (bel_length _ _)) ?_; refine S_val rfl rfl (Y_gtr_t rfl rfl (by omega)) ?_; refine S_val rfl rfl (Y_pick_f rfl rfl) ?_; refine S_nil ?_; refine X_seq ?_; refine T_cond_true rfl ?_; refine T_seq ?_; refine T_region ?_)
        refine S_callV rfl rfl (bod rfl) (fun w hs => mfixed_any _) rfl rfl ?_
        refine S_val rfl rfl (Y_move rfl) ?_
        refine S_val rfl rfl (Y_move rfl) ?_
        refine S_val rfl rfl (Y_eql_t rfl rfl (by decide)) ?_
        refine S_val rfl rfl (Y_pick_t rfl rfl) ?_
        refine S_val rfl rfl (Y_move rfl) ?_
        refine S_val rfl rfl (Y_move rfl) ?_
        refine S_val rfl rfl (Y_lenV rfl (und rfl) rfl (fun _ hs => hs.rowRd 0 rfl) (bel_length _ _)) ?_
        refine S_val rfl rfl (Y_move rfl) ?_
        refine S_val rfl rfl (Y_lenV rfl (und rfl) rfl (fun _ hs => Rd.st (by assumption) hs) (bel_length _ _)) ?_
        refine S_val rfl rfl (Y_eql_t rfl rfl (by omega)) ?_
        refine S_val rfl rfl (Y_pick_t rfl rfl) ?_
        refine S_val rfl rfl (Y_assign rfl) ?_
        refine S_nil ?_
        refine X_seq ?_
        refine T_ret ?_
        refine X_seq_ret ?_
        ((first | refine X_fin_ret ?_ | refine X_fin ?_); exact ⟨[_], [], .cons (.tmp rfl) .nil, Emb.nil _, rfl, rfl⟩)
    · have hs1 : ¬ 20 < i0 := by omega
      have hs2 : ¬ 9 < n := by omega
      have hs3 : ¬ 9 < k := by omega
      refine Fn_of (args := [v0, v1, v2]) Try.func6 rfl Try.ntmps6 Try.results6 (by simp) ?_
      refine T_seq ?_
      refine T_region ?_
      refine S_val rfl rfl (Y_assign rfl) ?_
      refine S_nil ?_
      refine X_seq ?_
      refine T_seq ?_
      refine T_region ?_
      refine S_val rfl rfl (Y_move rfl) ?_
      refine S_val rfl rfl (Y_move rfl) ?_
      refine S_val rfl rfl (Y_move rfl) ?_
      refine S_call _ rfl rfl (bod rfl) (fun w hs => p _ (Rd.st r0 hs) (Rd.st r1 hs) (Rd.st r2 hs)) rfl rfl ?_
      rintro _ _ ⟨u, rfl, rfl⟩
      refine S_val rfl rfl (Y_move rfl) ?_
      refine S_val rfl rfl (Y_extract rfl rfl) ?_
      refine S_val rfl rfl (Y_extract rfl rfl) ?_
      refine S_val rfl rfl (Y_assign rfl) ?_
      refine S_val rfl rfl (Y_assign rfl) ?_
      refine S_nil ?_
      refine X_seq ?_
      refine T_seq ?_
      refine T_seq ?_
      refine T_region ?_
      refine S_val rfl rfl (Y_move rfl) ?_
      refine S_val rfl rfl (Y_move rfl) ?_
      refine S_val rfl rfl (Y_move rfl) ?_
      refine S_slice3 (und rfl) (siz rfl) (zer rfl) rfl rfl rfl rfl u0 u1 u2 rfl rfl fun _ => ?_
      skip
      refine S_callV rfl rfl (bod rfl) (fun w hs => lg _ _ (hs.rowRdV 1 rfl) (Rd.st r0 hs) (Rd.st r1 hs) (Rd.st r2 hs)) rfl rfl ?_
      refine S_nil ?_
      refine X_seq ?_
      refine T_cond_false rfl ?_
      refine T_skip ?_
      refine X_seq ?_
      refine T_seq ?_
      refine T_seq ?_
      refine T_region ?_
      refine S_val rfl rfl (Y_move rfl) ?_
      refine S_val rfl rfl (Y_lenV rfl (und rfl) rfl (fun _ hs => Rd.st (by assumption) hs) (bel_length _ _)) ?_
      refine S_val rfl rfl (Y_gtr_f rfl rfl (by omega)) ?_
      refine S_val rfl rfl (Y_move rfl) ?_
      refine S_val rfl rfl (Y_move rfl) ?_
      refine S_val rfl rfl (Y_lenV rfl (und rfl) rfl (fun _ hs => Rd.st (by assumption) hs) (bel_length _ _)) ?_
      refine S_val rfl rfl (Y_gtr_f rfl rfl (by omega)) ?_
      refine S_val rfl rfl (Y_pick_f rfl rfl) ?_
      refine S_val rfl rfl (Y_move rfl) ?_
      refine S_val rfl rfl (Y_move rfl) ?_
      refine S_val rfl rfl (Y_lenV rfl (und rfl) rfl (fun _ hs => Rd.st (by assumption) hs) (bel_length _ _)) ?_
      refine S_val rfl rfl (Y_gtr_f rfl rfl (by omega)) ?_
      refine S_val rfl rfl (Y_pick_f rfl rfl) ?_
      refine S_nil ?_
      refine X_seq ?_
      refine T_cond_false rfl ?_
      refine T_skip ?_
      refine X_seq ?_
      refine T_seq ?_
      refine T_draw (by kernel_rfl) (by kernel_rfl) rfl ?_
      refine D0_callV rfl rfl (bod rfl) (fun w hs => mfixed_any _) rfl rfl ?_
      refine D0_val rfl rfl rfl (Y_move rfl) ?_
      refine D0_val rfl rfl rfl (Y_move rfl) ?_
      refine D0_val rfl rfl rfl (Y_eql_t rfl rfl (by decide)) ?_
      refine D0_val rfl rfl rfl (Y_pick_t rfl rfl) ?_
      refine D0_val rfl rfl rfl (Y_move rfl) ?_
      refine D0_val rfl rfl rfl (Y_move rfl) ?_
      refine D0_valM rfl rfl rfl (Y_toStr (und rfl) (und rfl) (und rfl) rfl (fun _ hs => hs.rowRd 0 rfl)) ?_
      refine D0_val rfl rfl rfl (Y_move rfl) ?_
      refine D0_val rfl rfl rfl (Y_move rfl) ?_
      refine D0_val rfl rfl rfl (Y_move rfl) ?_
      refine D0_two ?_
      refine D2_call [] (by kernel_rfl) (fun _ => rfl) (fun _ => rfl) (bod rfl) (fun H w hK hs => rp w (Rd.st r0 hs) (Rd.st r1 hs) (Rd.st r2 hs)) (fun _ => rfl) rfl ?_
      refine D2_valK [0] (by kernel_rfl) rfl (fun _ => rfl) rfl (fun H hK => Y_toStr (und rfl) (und rfl) (und rfl) rfl fun w hs => (by first | exact Kn.rd hK hs 0 rfl | exact Kn.rd hK hs 1 rfl | exact Kn.rd hK hs 2 rfl | exact Kn.rd hK hs 3 rfl | exact Kn.rd hK hs 4 rfl | exact Kn.rd hK hs 5 rfl | exact hs.left.rowRd 0 rfl | exact hs.left.rowRd 1 rfl | exact hs.left.rowRd 2 rfl | exact hs.left.rowRd 3 rfl | exact hs.left.rowRd 4 rfl | exact hs.left.rowRd 5 rfl | exact hs.left.rowRd 6 rfl | exact hs.left.rowRd 7 rfl | exact hs.left.rowRd 8 rfl | exact hs.left.rowRd 9 rfl | exact hs.left.rowRd 10 rfl | exact hs.left.rowRd 11 rfl | exact hs.left.rowRd 12 rfl | exact hs.left.rowRd 13 rfl | exact Rd.st (by assumption) hs)) ?_
      refine D2_val rfl (fun _ => rfl) rfl (fun _ => (Y_eqlT_t rfl rfl rfl)) ?_
      refine D2_val rfl (fun _ => rfl) rfl (fun _ => (Y_pick_t rfl rfl)) ?_
      refine D2_val rfl (fun _ => rfl) rfl (fun _ => (Y_assign rfl)) ?_
      refine D2_nil fun H hK => ?_
      refine X_seq ?_
      refine T_ret ?_
      ((first | refine X_fin_ret ?_ | refine X_fin ?_); exact ⟨[_], [], .cons (.tmp rfl) .nil, Emb.nil _, rfl, rfl⟩)
end Go.Proofs.Ytchoncjikdfbgaa
