import Derived.Test.YtchoncjikdfbgaaMod5
import Derived.Test.YtchoncjikdfbgaaDraw4
/- The law ModexpBytes hands back true. -/
namespace Go.Proofs.Ytchoncjikdfbgaa
open Go.RowKit
set_option maxRecDepth 20000
set_option maxHeartbeats 4000000

theorem Kn.rdNR {C : Ctx} {L : Hp} {K : Kn} {H : Hist} {w : World} (hK : K.ok H) (hs : St C (L ++ K.hp H) w) (i : Nat) {j k r : Nat} (hi : K[i]? = some (j, NR k r)) : ∃ n, r < 256 ^ n ∧ n ≤ k ∧ Rd w (H j).1 .i64 (dl 256 n r) := by
  have hm := List.mem_of_getElem? hi
  obtain ⟨n, h0, h3, h1⟩ := hK _ hm
  have h2 : row .i64 (dl 256 n r) (H j).1 ∈ K.hp H := List.mem_flatMap.2 ⟨_, hm, by simp only at h1; rw [h1]; exact List.mem_singleton.2 rfl⟩
  exact ⟨n, h0, h3, (hs.emb (Emb.mem (List.mem_append_right L h2))).rowRd 0 rfl⟩
theorem pow_byte (b e c M : Nat) (h0 : M ≠ 0) : powN (powN b e M) 256 M * powN b c M % M = powN b (e * 256 + c) M := by
  unfold powN
  rw [if_neg h0, if_neg h0, if_neg h0, if_neg h0, Nat.pow_add, Nat.pow_mul, ← Nat.pow_mod, ← Nat.mul_mod]
theorem powN_lt (b e M : Nat) (h0 : M ≠ 0) : powN b e M < M := by unfold powN; rw [if_neg h0]; exact Nat.mod_lt _ (by omega)
theorem powN_bel {b e M k : Nat} (hM : M < 256 ^ k) : powN b e M < 256 ^ k := by
  unfold powN
  split
  · exact Nat.pow_pos (by omega)
  · exact Nat.lt_of_lt_of_le (Nat.mod_lt _ (by omega)) (Nat.le_of_lt hM)
theorem modexpBytes_law (i0 b : Nat) (hb : b < 256 ^ i0) (_hi : i0 ≤ 140737488355328) (v0 : Value) (n e : Nat) (he : e < 256 ^ n) (_hn : n ≤ 140737488355328) (v1 : Value) (k M : Nat) (hM : M < 256 ^ k) (_hk : k ≤ 140737488355328) (v2 : Value) (c : Nat) (hc : c < 256) (w : World)
    (r0 : Rd w v0 .u8 (bel i0 b)) (r1 : Rd w v1 .u8 (bel n e)) (r2 : Rd w v2 .u8 (bel k M)) : Fn Try.prog 7 #[v0, v1, v2, .int .u8 c] w fun u N => u = .bool true ∧ N = [] := by
  have lg := fun v w h h0 h1 h2 => mlong_any i0 n k _ _ _ (bel_length i0 b) (bel_length n e) (bel_length k M) v v0 v1 v2 w h h0 h1 h2
  obtain ⟨a0, c0, q0, _⟩ := r0.out
  obtain ⟨a1, c1, q1, _⟩ := r1.out
  obtain ⟨a2, c2, q2, _⟩ := r2.out
  have u0 : v0.cells = #[v0] := by rw [q0]; rfl
  have u1 : v1.cells = #[v1] := by rw [q1]; rfl
  have u2 : v2.cells = #[v2] := by rw [q2]; rfl
  clear q0 q1 q2
  by_cases hl : 64 < i0 ∨ 64 < n ∨ 64 < k
  · rw [decide_eq_true hl] at lg
    refine Fn_of (args := [v0, v1, v2, .int .u8 c]) Try.func7 rfl Try.ntmps7 Try.results7 (by simp) ?_
    refine T_seq ?_
    refine T_region ?_
    refine S_val rfl rfl (Y_assign rfl) ?_
    refine S_nil ?_
    refine X_seq ?_
    refine T_seq ?_
    refine T_seq ?_
    refine T_region ?_
    refine S_val rfl rfl (Y_move rfl) ?_
    refine S_val rfl rfl (Y_move rfl) ?_
    refine S_val rfl rfl (Y_move rfl) ?_
    refine S_slice3 (und rfl) (siz rfl) (zer rfl) rfl rfl rfl rfl u0 u1 u2 rfl rfl fun _ => ?_
    skip
    refine S_callV rfl rfl (bod rfl) (fun w hs => lg _ _ (hs.rowRdV 0 rfl) (Rd.st r0 hs) (Rd.st r1 hs) (Rd.st r2 hs)) rfl rfl ?_
    refine S_val rfl rfl (Y_move rfl) ?_
    refine S_skip rfl rfl ?_
    refine S_skip rfl rfl ?_
    refine S_skip rfl rfl ?_
    refine S_val rfl rfl (Y_pick_t rfl rfl) ?_
    refine S_val rfl rfl (Y_move rfl) ?_
    refine S_skip rfl rfl ?_
    refine S_skip rfl rfl ?_
    refine S_skip rfl rfl ?_
    refine S_val rfl rfl (Y_pick_t rfl rfl) ?_
    refine S_nil ?_
    refine X_seq ?_
    refine T_cond_true rfl ?_
    refine T_seq ?_
    refine T_region ?_
    refine S_callV rfl rfl (bod rfl) (fun w hs => mfixed_any _) rfl rfl ?_
    refine S_val rfl rfl (Y_assign rfl) ?_
    refine S_nil ?_
    refine X_seq ?_
    refine T_ret ?_
    refine X_seq_ret ?_
    ((first | refine X_fin_ret ?_ | refine X_fin ?_); exact ⟨[_], [], .cons (.tmp rfl) .nil, Emb.nil _, rfl, rfl⟩)
  · rw [decide_eq_false hl] at lg
    by_cases hn : n = 64
    · skip
      refine Fn_of (args := [v0, v1, v2, .int .u8 c]) Try.func7 rfl Try.ntmps7 Try.results7 (by simp) ?_
      refine T_seq ?_
      refine T_region ?_
      refine S_val rfl rfl (Y_assign rfl) ?_
      refine S_nil ?_
      refine X_seq ?_
      refine T_seq ?_
      refine T_seq ?_
      refine T_region ?_
      refine S_val rfl rfl (Y_move rfl) ?_
      refine S_val rfl rfl (Y_move rfl) ?_
      refine S_val rfl rfl (Y_move rfl) ?_
      refine S_slice3 (und rfl) (siz rfl) (zer rfl) rfl rfl rfl rfl u0 u1 u2 rfl rfl fun _ => ?_
      skip
      refine S_callV rfl rfl (bod rfl) (fun w hs => lg _ _ (hs.rowRdV 0 rfl) (Rd.st r0 hs) (Rd.st r1 hs) (Rd.st r2 hs)) rfl rfl ?_
      refine S_val rfl rfl (Y_move rfl) ?_
      refine S_val rfl rfl (Y_move rfl) ?_
      refine S_val rfl rfl (Y_lenV rfl (und rfl) rfl (fun _ hs => Rd.st (by assumption) hs) (bel_length _ _)) ?_
      refine S_val rfl rfl (Y_eql_t rfl rfl (by omega)) ?_
      refine S_val rfl rfl (Y_pick_f rfl rfl) ?_
      refine S_val rfl rfl (Y_move rfl) ?_
      refine S_skip rfl rfl ?_
      refine S_skip rfl rfl ?_
      refine S_skip rfl rfl ?_
      refine S_val rfl rfl (Y_pick_t rfl rfl) ?_
      refine S_nil ?_
      refine X_seq ?_
      refine T_cond_true rfl ?_
      refine T_seq ?_
      refine T_region ?_
      refine S_callV rfl rfl (bod rfl) (fun w hs => mfixed_any _) rfl rfl ?_
      refine S_val rfl rfl (Y_assign rfl) ?_
      refine S_nil ?_
      refine X_seq ?_
      refine T_ret ?_
      refine X_seq_ret ?_
      ((first | refine X_fin_ret ?_ | refine X_fin ?_); exact ⟨[_], [], .cons (.tmp rfl) .nil, Emb.nil _, rfl, rfl⟩)
    · by_cases hk : k = 0
      · skip
        refine Fn_of (args := [v0, v1, v2, .int .u8 c]) Try.func7 rfl Try.ntmps7 Try.results7 (by simp) ?_
        refine T_seq ?_
        refine T_region ?_
        refine S_val rfl rfl (Y_assign rfl) ?_
        refine S_nil ?_
        refine X_seq ?_
        refine T_seq ?_
        refine T_seq ?_
        refine T_region ?_
        refine S_val rfl rfl (Y_move rfl) ?_
        refine S_val rfl rfl (Y_move rfl) ?_
        refine S_val rfl rfl (Y_move rfl) ?_
        refine S_slice3 (und rfl) (siz rfl) (zer rfl) rfl rfl rfl rfl u0 u1 u2 rfl rfl fun _ => ?_
        skip
        refine S_callV rfl rfl (bod rfl) (fun w hs => lg _ _ (hs.rowRdV 0 rfl) (Rd.st r0 hs) (Rd.st r1 hs) (Rd.st r2 hs)) rfl rfl ?_
        refine S_val rfl rfl (Y_move rfl) ?_
        refine S_val rfl rfl (Y_move rfl) ?_
        refine S_val rfl rfl (Y_lenV rfl (und rfl) rfl (fun _ hs => Rd.st (by assumption) hs) (bel_length _ _)) ?_
        refine S_val rfl rfl (Y_eql_f rfl rfl (by omega)) ?_
        refine S_val rfl rfl (Y_pick_f rfl rfl) ?_
        refine S_val rfl rfl (Y_move rfl) ?_
        refine S_val rfl rfl (Y_move rfl) ?_
        refine S_val rfl rfl (Y_lenV rfl (und rfl) rfl (fun _ hs => Rd.st (by assumption) hs) (bel_length _ _)) ?_
        refine S_val rfl rfl (Y_eql_t rfl rfl (by omega)) ?_
        refine S_val rfl rfl (Y_pick_f rfl rfl) ?_
        refine S_nil ?_
        refine X_seq ?_
        refine T_cond_true rfl ?_
        refine T_seq ?_
        refine T_region ?_
        refine S_callV rfl rfl (bod rfl) (fun w hs => mfixed_any _) rfl rfl ?_
        refine S_val rfl rfl (Y_assign rfl) ?_
        refine S_nil ?_
        refine X_seq ?_
        refine T_ret ?_
        refine X_seq_ret ?_
        ((first | refine X_fin_ret ?_ | refine X_fin ?_); exact ⟨[_], [], .cons (.tmp rfl) .nil, Emb.nil _, rfl, rfl⟩)
      · have he2 : e * 256 + c < 256 ^ (n + 1) := by rw [Nat.pow_succ]; omega
        have p1 := fun w h0 h1 h2 => mpow_any i0 b n e k M hb he hM (by omega) (by omega) (by omega) v0 v1 v2 w h0 h1 h2
        have p2 := fun v1 w h0 h1 h2 => mpow_any i0 b (n + 1) (e * 256 + c) k M hb he2 hM (by omega) (by omega) (by omega) v0 v1 v2 w h0 h1 h2
        have p3 := fun v0 v1 w h0 h1 h2 => mpow_any k (powN b e M) 2 256 k M (powN_bel hM) (by omega) hM (by omega) (by omega) (by omega) v0 v1 v2 w h0 h1 h2
        have p4 := fun v1 w h0 h1 h2 => mpow_any i0 b 1 c k M hb (by omega) hM (by omega) (by omega) (by omega) v0 v1 v2 w h0 h1 h2
        have e2 : fillI (List.replicate 0 (0 : Int)) [] ++ bel n e ++ fillI (List.replicate 1 0) [(0, (c : Int))] = bel (n + 1) (e * 256 + c) := bel_snoc n e c hc
        have e4 : fillI (List.replicate 1 (0 : Int)) [(0, (c : Int))] = bel 1 c := by
          have := bel_snoc 0 0 c hc
          rw [show 0 * 256 + c = c by omega] at this
          exact this
        have om := fun w h => r9of_any k M hM (by omega) v2 w h
        have zm := fun v w h => nzero_any M k hM (by omega) v w h
        by_cases h0 : M = 0
        · rw [decide_eq_true h0] at zm
          have hz : ∀ x y, powN x y M = 0 := fun x y => if_pos h0
          simp only [hz] at p1 p2 p3 p4
          have ez : bel k 0 = List.replicate k 0 := bel_zero k
          have es : strI (bel k 0) = strI (List.replicate k 0) := by rw [ez]
          clear hz h0 he2 hb he hM
          refine Fn_of (args := [v0, v1, v2, .int .u8 c]) Try.func7 rfl Try.ntmps7 Try.results7 (by simp) ?_
          refine T_seq ?_
          refine T_region ?_
          refine S_val rfl rfl (Y_assign rfl) ?_
          refine S_nil ?_
          refine X_seq ?_
          refine T_seq ?_
          refine T_seq ?_
          refine T_region ?_
          refine S_val rfl rfl (Y_move rfl) ?_
          refine S_val rfl rfl (Y_move rfl) ?_
          refine S_val rfl rfl (Y_move rfl) ?_
          refine S_slice3 (und rfl) (siz rfl) (zer rfl) rfl rfl rfl rfl u0 u1 u2 rfl rfl fun _ => ?_
          skip
          refine S_callV rfl rfl (bod rfl) (fun w hs => lg _ _ (hs.rowRdV 0 rfl) (Rd.st r0 hs) (Rd.st r1 hs) (Rd.st r2 hs)) rfl rfl ?_
          refine S_val rfl rfl (Y_move rfl) ?_
          refine S_val rfl rfl (Y_move rfl) ?_
          refine S_val rfl rfl (Y_lenV rfl (und rfl) rfl (fun _ hs => Rd.st (by assumption) hs) (bel_length _ _)) ?_
          refine S_val rfl rfl (Y_eql_f rfl rfl (by omega)) ?_
          refine S_val rfl rfl (Y_pick_f rfl rfl) ?_
          refine S_val rfl rfl (Y_move rfl) ?_
          refine S_val rfl rfl (Y_move rfl) ?_
          refine S_val rfl rfl (Y_lenV rfl (und rfl) rfl (fun _ hs => Rd.st (by assumption) hs) (bel_length _ _)) ?_
          refine S_val rfl rfl (Y_eql_f rfl rfl (by omega)) ?_
          refine S_val rfl rfl (Y_pick_f rfl rfl) ?_
          refine S_nil ?_
          refine X_seq ?_
          refine T_cond_false rfl ?_
          refine T_skip ?_
          refine X_seq ?_
          refine T_seq ?_
          refine T_region ?_
          refine S_val rfl rfl (Y_move rfl) ?_
          refine S_val rfl rfl (Y_move rfl) ?_
          refine S_val rfl rfl (Y_move rfl) ?_
          refine S_call _ rfl rfl (bod rfl) (fun w hs => p1 _ (Rd.st r0 hs) (Rd.st r1 hs) (Rd.st r2 hs)) rfl rfl ?_
          rintro _ _ ⟨x1, rfl, rfl⟩
          refine S_val rfl rfl (Y_move rfl) ?_
          refine S_val rfl rfl (Y_extract rfl rfl) ?_
          refine S_val rfl rfl (Y_extract rfl rfl) ?_
          refine S_val rfl rfl (Y_assign rfl) ?_
          refine S_val rfl rfl (Y_assign rfl) ?_
          refine S_nil ?_
          refine X_seq ?_
          refine T_seq ?_
          refine T_region ?_
          refine S_val rfl rfl (Y_move rfl) ?_
          refine S_sliceR (und rfl) (siz rfl) (zer rfl) rfl rfl rfl rfl fun _ => ?_
          refine S_val rfl rfl (Y_move rfl) ?_
          refine S_append 2 rfl (und rfl) (und rfl) (siz rfl) (byt rfl) (zer rfl) rfl rfl rfl (fun _ hs => Rd.st (by assumption) hs) (by simp; omega) rfl rfl rfl fun _ => ?_
          refine S_val rfl rfl (Y_move rfl) ?_
          refine S_sliceR (und rfl) (siz rfl) (zer rfl) rfl rfl rfl rfl fun _ => ?_
          refine S_append 2 rfl (und rfl) (und rfl) (siz rfl) (byt rfl) (zer rfl) rfl rfl rfl (fun _ hs => hs.rowRd 3 rfl) (by simp; omega) rfl rfl rfl fun _ => ?_
          refine S_val rfl rfl (Y_move rfl) ?_
          refine S_call _ rfl rfl (bod rfl) (fun w hs => p2 _ _ (Rd.st r0 hs) (by rw [← e2]; exact hs.rowRd 2 rfl) (Rd.st r2 hs)) rfl rfl ?_
          rintro _ _ ⟨x2, rfl, rfl⟩
          refine S_val rfl rfl (Y_move rfl) ?_
          refine S_val rfl rfl (Y_extract rfl rfl) ?_
          refine S_val rfl rfl (Y_extract rfl rfl) ?_
          refine S_val rfl rfl (Y_assign rfl) ?_
          refine S_val rfl rfl (Y_assign rfl) ?_
          refine S_nil ?_
          refine X_seq ?_
          refine T_seq ?_
          refine T_region ?_
          refine S_val rfl rfl (Y_move rfl) ?_
          refine S_sliceR (und rfl) (siz rfl) (zer rfl) rfl rfl rfl rfl fun _ => ?_
          refine S_val rfl rfl (Y_move rfl) ?_
          refine S_call _ rfl rfl (bod rfl) (fun w hs => p3 _ _ _ (hs.rowRd 1 rfl) (hs.rowRd 5 rfl) (Rd.st r2 hs)) rfl rfl ?_
          rintro _ _ ⟨x3, rfl, rfl⟩
          refine S_val rfl rfl (Y_move rfl) ?_
          refine S_val rfl rfl (Y_extract rfl rfl) ?_
          refine S_val rfl rfl (Y_extract rfl rfl) ?_
          refine S_val rfl rfl (Y_assign rfl) ?_
          refine S_val rfl rfl (Y_assign rfl) ?_
          refine S_nil ?_
          refine X_seq ?_
          refine T_seq ?_
          refine T_region ?_
          refine S_val rfl rfl (Y_move rfl) ?_
          refine S_val rfl rfl (Y_move rfl) ?_
          refine S_sliceR (und rfl) (siz rfl) (zer rfl) rfl rfl rfl rfl fun _ => ?_
          refine S_val rfl rfl (Y_move rfl) ?_
          refine S_call _ rfl rfl (bod rfl) (fun w hs => p4 _ _ (Rd.st r0 hs) (by rw [← e4]; exact hs.rowRd 7 rfl) (Rd.st r2 hs)) rfl rfl ?_
          rintro _ _ ⟨x4, rfl, rfl⟩
          refine S_val rfl rfl (Y_move rfl) ?_
          refine S_val rfl rfl (Y_extract rfl rfl) ?_
          refine S_val rfl rfl (Y_extract rfl rfl) ?_
          refine S_val rfl rfl (Y_assign rfl) ?_
          refine S_val rfl rfl (Y_assign rfl) ?_
          refine S_nil ?_
          refine X_seq ?_
          refine T_seq ?_
          refine T_seq ?_
          refine T_region ?_
          refine S_val rfl rfl (Y_move rfl) ?_
          refine S_val rfl rfl (Y_neq_f rfl rfl (by decide)) ?_
          refine S_val rfl rfl (Y_move rfl) ?_
          refine S_val rfl rfl (Y_move rfl) ?_
          refine S_val rfl rfl (Y_neq_f rfl rfl (by decide)) ?_
          refine S_val rfl rfl (Y_pick_f rfl rfl) ?_
          refine S_val rfl rfl (Y_move rfl) ?_
          refine S_val rfl rfl (Y_move rfl) ?_
          refine S_val rfl rfl (Y_neq_f rfl rfl (by decide)) ?_
          refine S_val rfl rfl (Y_pick_f rfl rfl) ?_
          refine S_val rfl rfl (Y_move rfl) ?_
          refine S_val rfl rfl (Y_move rfl) ?_
          refine S_val rfl rfl (Y_neq_f rfl rfl (by decide)) ?_
          refine S_val rfl rfl (Y_pick_f rfl rfl) ?_
          refine S_nil ?_
          refine X_seq ?_
          refine T_cond_false rfl ?_
          refine T_skip ?_
          refine X_seq ?_
          refine T_seq ?_
          refine T_region ?_
          refine S_val rfl rfl (Y_move rfl) ?_
          refine S_callR _ rfl rfl (bod rfl) (fun w hs => om _ (by first | exact hs.rowRd 0 rfl | exact hs.rowRd 1 rfl | exact hs.rowRd 2 rfl | exact hs.rowRd 3 rfl | exact hs.rowRd 4 rfl | exact hs.rowRd 5 rfl | exact hs.rowRd 6 rfl | exact hs.rowRd 7 rfl | exact hs.rowRd 8 rfl | exact hs.rowRd 9 rfl | exact hs.rowRd 10 rfl | exact hs.rowRd 11 rfl | exact hs.rowRd 12 rfl | exact hs.rowRd 13 rfl | exact Rd.st (by assumption) hs)) rfl rfl fun _ => ?_
          refine S_val rfl rfl (Y_assign rfl) ?_
          refine S_nil ?_
          refine X_seq ?_
          refine T_seq ?_
          refine T_seq ?_
          refine T_region ?_
          refine S_val rfl rfl (Y_move rfl) ?_
          refine S_callV rfl rfl (bod rfl) (fun w hs => zm _ _ (by first | exact hs.rowRd 0 rfl | exact hs.rowRd 1 rfl | exact hs.rowRd 2 rfl | exact hs.rowRd 3 rfl | exact hs.rowRd 4 rfl | exact hs.rowRd 5 rfl | exact hs.rowRd 6 rfl | exact hs.rowRd 7 rfl | exact hs.rowRd 8 rfl | exact hs.rowRd 9 rfl | exact hs.rowRd 10 rfl | exact hs.rowRd 11 rfl | exact hs.rowRd 12 rfl | exact hs.rowRd 13 rfl | exact Rd.st (by assumption) hs)) rfl rfl ?_
          refine S_nil ?_
          refine X_seq ?_
          refine T_cond_true rfl ?_
          refine T_seq ?_
          refine T_draw (by kernel_rfl) (by kernel_rfl) rfl ?_
          refine D0_two ?_
          refine D2_callV [] (by kernel_rfl) (fun _ => rfl) (fun _ => rfl) (bod rfl) (fun H w hK hs => mfixed_any w) (fun _ => rfl) rfl ?_
          refine D2_val rfl (fun _ => rfl) rfl (fun _ => (Y_move rfl)) ?_
          refine D2_val rfl (fun _ => rfl) rfl (fun _ => (Y_move rfl)) ?_
          refine D2_valM rfl (fun _ => rfl) rfl (fun _ => (Y_toStr (und rfl) (und rfl) (und rfl) rfl (fun _ hs => hs.rowRd 4 rfl))) ?_
          refine D2_val rfl (fun _ => rfl) rfl (fun _ => (Y_move rfl)) ?_
          refine D2_valM rfl (fun _ => rfl) rfl (fun _ => (Y_lenV rfl (und rfl) rfl (fun _ hs => Rd.st (by assumption) hs) (bel_length _ _))) ?_
          refine D2_newR rfl (fun _ => rfl) rfl (fun H a w hr => run_makeR (und rfl) (siz rfl) (byt rfl) (zer rfl) rfl rfl (nat_cast _) (by omega) rfl a w hr) ?_
          refine D2_valK [0] (by kernel_rfl) rfl (fun _ => rfl) rfl (fun H hK => Y_toStr (und rfl) (und rfl) (und rfl) rfl fun w hs => (by first | exact Kn.rd hK hs 0 rfl | exact Kn.rd hK hs 1 rfl | exact Kn.rd hK hs 2 rfl | exact Kn.rd hK hs 3 rfl | exact Kn.rd hK hs 4 rfl | exact Kn.rd hK hs 5 rfl | exact hs.left.rowRd 0 rfl | exact hs.left.rowRd 1 rfl | exact hs.left.rowRd 2 rfl | exact hs.left.rowRd 3 rfl | exact hs.left.rowRd 4 rfl | exact hs.left.rowRd 5 rfl | exact hs.left.rowRd 6 rfl | exact hs.left.rowRd 7 rfl | exact hs.left.rowRd 8 rfl | exact hs.left.rowRd 9 rfl | exact hs.left.rowRd 10 rfl | exact hs.left.rowRd 11 rfl | exact hs.left.rowRd 12 rfl | exact hs.left.rowRd 13 rfl | exact Rd.st (by assumption) hs)) ?_
          refine D2_val rfl (fun _ => rfl) rfl (fun _ => (Y_eqlT_t rfl rfl (by assumption))) ?_
          refine D2_val rfl (fun _ => rfl) rfl (fun _ => (Y_pick_t rfl rfl)) ?_
          refine D2_val rfl (fun _ => rfl) rfl (fun _ => (Y_assign rfl)) ?_
          refine D2_nil fun H hK => ?_
          refine X_seq ?_
          refine T_ret ?_
          refine X_seq_ret ?_
          ((first | refine X_fin_ret ?_ | refine X_fin ?_); exact ⟨[_], [], .cons (.tmp rfl) .nil, Emb.nil _, rfl, rfl⟩)
        · rw [decide_eq_false h0] at zm
          have hpb := pow_byte b e c M h0
          have hyl := powN_bel (b := b) (e := e * 256 + c) hM
          have hyM := powN_lt b (e * 256 + c) M h0
          have l3 := powN_bel (b := powN b e M) (e := 256) hM
          have l4 := powN_bel (b := b) (e := c) hM
          generalize powN b (e * 256 + c) M = y at *
          generalize powN (powN b e M) 256 M = z at *
          generalize powN b c M = q at *
          generalize powN b e M = x at *
          have oz := fun v w h => r9of_any k z l3 (by omega) v w h
          have oq := fun v w h => r9of_any k q l4 (by omega) v w h
          have oy := fun v w h => r9of_any k y hyl (by omega) v w h
          have mu := fun v u t w h h' ht => r9mul_any z q M k k k l3 l4 hM h0 (by omega) (by omega) (by omega) v u t w h h' ht
          rw [hpb] at mu
          have bt := fun j hj hjk v w h => r9bytes_any y j k hj hjk (by omega) v w h
          have ls := fun v u w h h' => nless_any y M k k hyl hM (by omega) (by omega) v u w h h'
          rw [decide_eq_true hyM] at ls
          have hk2 : k ≤ 64 := by omega
          have hn2 : n ≤ 64 := by omega
          clear hpb l3 l4 hyM hyl h0 he2 hb he hM hl
          refine Fn_of (args := [v0, v1, v2, .int .u8 c]) Try.func7 rfl Try.ntmps7 Try.results7 (by simp) ?_
          refine T_seq ?_
          refine T_region ?_
          refine S_val rfl rfl (Y_assign rfl) ?_
          refine S_nil ?_
          refine X_seq ?_
          refine T_seq ?_
          refine T_seq ?_
          refine T_region ?_
          refine S_val rfl rfl (Y_move rfl) ?_
          refine S_val rfl rfl (Y_move rfl) ?_
          refine S_val rfl rfl (Y_move rfl) ?_
          refine S_slice3 (und rfl) (siz rfl) (zer rfl) rfl rfl rfl rfl u0 u1 u2 rfl rfl fun _ => ?_
          skip
          refine S_callV rfl rfl (bod rfl) (fun w hs => lg _ _ (hs.rowRdV 0 rfl) (Rd.st r0 hs) (Rd.st r1 hs) (Rd.st r2 hs)) rfl rfl ?_
          refine S_val rfl rfl (Y_move rfl) ?_
          refine S_val rfl rfl (Y_move rfl) ?_
          refine S_val rfl rfl (Y_lenV rfl (und rfl) rfl (fun _ hs => Rd.st (by assumption) hs) (bel_length _ _)) ?_
          refine S_val rfl rfl (Y_eql_f rfl rfl (by omega)) ?_
          refine S_val rfl rfl (Y_pick_f rfl rfl) ?_
          refine S_val rfl rfl (Y_move rfl) ?_
          refine S_val rfl rfl (Y_move rfl) ?_
          refine S_val rfl rfl (Y_lenV rfl (und rfl) rfl (fun _ hs => Rd.st (by assumption) hs) (bel_length _ _)) ?_
          refine S_val rfl rfl (Y_eql_f rfl rfl (by omega)) ?_
          refine S_val rfl rfl (Y_pick_f rfl rfl) ?_
          refine S_nil ?_
          refine X_seq ?_
          refine T_cond_false rfl ?_
          refine T_skip ?_
          refine X_seq ?_
          refine T_seq ?_
          refine T_region ?_
          refine S_val rfl rfl (Y_move rfl) ?_
          refine S_val rfl rfl (Y_move rfl) ?_
          refine S_val rfl rfl (Y_move rfl) ?_
          refine S_call _ rfl rfl (bod rfl) (fun w hs => p1 _ (Rd.st r0 hs) (Rd.st r1 hs) (Rd.st r2 hs)) rfl rfl ?_
          rintro _ _ ⟨x1, rfl, rfl⟩
          refine S_val rfl rfl (Y_move rfl) ?_
          refine S_val rfl rfl (Y_extract rfl rfl) ?_
          refine S_val rfl rfl (Y_extract rfl rfl) ?_
          refine S_val rfl rfl (Y_assign rfl) ?_
          refine S_val rfl rfl (Y_assign rfl) ?_
          refine S_nil ?_
          refine X_seq ?_
          refine T_seq ?_
          refine T_region ?_
          refine S_val rfl rfl (Y_move rfl) ?_
          refine S_sliceR (und rfl) (siz rfl) (zer rfl) rfl rfl rfl rfl fun _ => ?_
          refine S_val rfl rfl (Y_move rfl) ?_
          refine S_append 2 rfl (und rfl) (und rfl) (siz rfl) (byt rfl) (zer rfl) rfl rfl rfl (fun _ hs => Rd.st (by assumption) hs) (by simp; omega) rfl rfl rfl fun _ => ?_
          refine S_val rfl rfl (Y_move rfl) ?_
          refine S_sliceR (und rfl) (siz rfl) (zer rfl) rfl rfl rfl rfl fun _ => ?_
          refine S_append 2 rfl (und rfl) (und rfl) (siz rfl) (byt rfl) (zer rfl) rfl rfl rfl (fun _ hs => hs.rowRd 3 rfl) (by simp; omega) rfl rfl rfl fun _ => ?_
          refine S_val rfl rfl (Y_move rfl) ?_
          refine S_call _ rfl rfl (bod rfl) (fun w hs => p2 _ _ (Rd.st r0 hs) (by rw [← e2]; exact hs.rowRd 2 rfl) (Rd.st r2 hs)) rfl rfl ?_
          rintro _ _ ⟨x2, rfl, rfl⟩
          refine S_val rfl rfl (Y_move rfl) ?_
          refine S_val rfl rfl (Y_extract rfl rfl) ?_
          refine S_val rfl rfl (Y_extract rfl rfl) ?_
          refine S_val rfl rfl (Y_assign rfl) ?_
          refine S_val rfl rfl (Y_assign rfl) ?_
          refine S_nil ?_
          refine X_seq ?_
          refine T_seq ?_
          refine T_region ?_
          refine S_val rfl rfl (Y_move rfl) ?_
          refine S_sliceR (und rfl) (siz rfl) (zer rfl) rfl rfl rfl rfl fun _ => ?_
          refine S_val rfl rfl (Y_move rfl) ?_
          refine S_call _ rfl rfl (bod rfl) (fun w hs => p3 _ _ _ (hs.rowRd 1 rfl) (hs.rowRd 5 rfl) (Rd.st r2 hs)) rfl rfl ?_
          rintro _ _ ⟨x3, rfl, rfl⟩
          refine S_val rfl rfl (Y_move rfl) ?_
          refine S_val rfl rfl (Y_extract rfl rfl) ?_
          refine S_val rfl rfl (Y_extract rfl rfl) ?_
          refine S_val rfl rfl (Y_assign rfl) ?_
          refine S_val rfl rfl (Y_assign rfl) ?_
          refine S_nil ?_
          refine X_seq ?_
          refine T_seq ?_
          refine T_region ?_
          refine S_val rfl rfl (Y_move rfl) ?_
          refine S_val rfl rfl (Y_move rfl) ?_
          refine S_sliceR (und rfl) (siz rfl) (zer rfl) rfl rfl rfl rfl fun _ => ?_
          refine S_val rfl rfl (Y_move rfl) ?_
          refine S_call _ rfl rfl (bod rfl) (fun w hs => p4 _ _ (Rd.st r0 hs) (by rw [← e4]; exact hs.rowRd 7 rfl) (Rd.st r2 hs)) rfl rfl ?_
          rintro _ _ ⟨x4, rfl, rfl⟩
          refine S_val rfl rfl (Y_move rfl) ?_
          refine S_val rfl rfl (Y_extract rfl rfl) ?_
          refine S_val rfl rfl (Y_extract rfl rfl) ?_
          refine S_val rfl rfl (Y_assign rfl) ?_
          refine S_val rfl rfl (Y_assign rfl) ?_
          refine S_nil ?_
          refine X_seq ?_
          refine T_seq ?_
          refine T_seq ?_
          refine T_region ?_
          refine S_val rfl rfl (Y_move rfl) ?_
          refine S_val rfl rfl (Y_neq_f rfl rfl (by decide)) ?_
          refine S_val rfl rfl (Y_move rfl) ?_
          refine S_val rfl rfl (Y_move rfl) ?_
          refine S_val rfl rfl (Y_neq_f rfl rfl (by decide)) ?_
          refine S_val rfl rfl (Y_pick_f rfl rfl) ?_
          refine S_val rfl rfl (Y_move rfl) ?_
          refine S_val rfl rfl (Y_move rfl) ?_
          refine S_val rfl rfl (Y_neq_f rfl rfl (by decide)) ?_
          refine S_val rfl rfl (Y_pick_f rfl rfl) ?_
          refine S_val rfl rfl (Y_move rfl) ?_
          refine S_val rfl rfl (Y_move rfl) ?_
          refine S_val rfl rfl (Y_neq_f rfl rfl (by decide)) ?_
          refine S_val rfl rfl (Y_pick_f rfl rfl) ?_
          refine S_nil ?_
          refine X_seq ?_
          refine T_cond_false rfl ?_
          refine T_skip ?_
          refine X_seq ?_
          refine T_seq ?_
          refine T_region ?_
          refine S_val rfl rfl (Y_move rfl) ?_
          refine S_callR _ rfl rfl (bod rfl) (fun w hs => om _ (by first | exact hs.rowRd 0 rfl | exact hs.rowRd 1 rfl | exact hs.rowRd 2 rfl | exact hs.rowRd 3 rfl | exact hs.rowRd 4 rfl | exact hs.rowRd 5 rfl | exact hs.rowRd 6 rfl | exact hs.rowRd 7 rfl | exact hs.rowRd 8 rfl | exact hs.rowRd 9 rfl | exact hs.rowRd 10 rfl | exact hs.rowRd 11 rfl | exact hs.rowRd 12 rfl | exact hs.rowRd 13 rfl | exact Rd.st (by assumption) hs)) rfl rfl fun _ => ?_
          refine S_val rfl rfl (Y_assign rfl) ?_
          refine S_nil ?_
          refine X_seq ?_
          refine T_seq ?_
          refine T_seq ?_
          refine T_region ?_
          refine S_val rfl rfl (Y_move rfl) ?_
          refine S_callV rfl rfl (bod rfl) (fun w hs => zm _ _ (by first | exact hs.rowRd 0 rfl | exact hs.rowRd 1 rfl | exact hs.rowRd 2 rfl | exact hs.rowRd 3 rfl | exact hs.rowRd 4 rfl | exact hs.rowRd 5 rfl | exact hs.rowRd 6 rfl | exact hs.rowRd 7 rfl | exact hs.rowRd 8 rfl | exact hs.rowRd 9 rfl | exact hs.rowRd 10 rfl | exact hs.rowRd 11 rfl | exact hs.rowRd 12 rfl | exact hs.rowRd 13 rfl | exact Rd.st (by assumption) hs)) rfl rfl ?_
          refine S_nil ?_
          refine X_seq ?_
          refine T_cond_false rfl ?_
          refine T_skip ?_
          refine X_seq ?_
          refine T_seq ?_
          refine T_draw (by kernel_rfl) (by kernel_rfl) rfl ?_
          refine D0_two ?_
          refine D2_callV [] (by kernel_rfl) (fun _ => rfl) (fun _ => rfl) (bod rfl) (fun H w hK hs => mfixed_any w) (fun _ => rfl) rfl ?_
          refine D2_val rfl (fun _ => rfl) rfl (fun _ => (Y_move rfl)) ?_
          refine D2_val rfl (fun _ => rfl) rfl (fun _ => (Y_move rfl)) ?_
          refine D2_valM rfl (fun _ => rfl) rfl (fun _ => (Y_toStr (und rfl) (und rfl) (und rfl) rfl (fun _ hs => hs.rowRd 4 rfl))) ?_
          refine D2_val rfl (fun _ => rfl) rfl (fun _ => (Y_move rfl)) ?_
          refine D2_call [] (by kernel_rfl) (fun _ => rfl) (fun _ => rfl) (bod rfl) (fun H w hK hs => oz _ w (hs.left.rowRd 6 rfl)) (fun _ => rfl) rfl ?_
          refine D2_val rfl (fun _ => rfl) rfl (fun _ => (Y_move rfl)) ?_
          refine D2_call [] (by kernel_rfl) (fun _ => rfl) (fun _ => rfl) (bod rfl) (fun H w hK hs => oq _ w (hs.left.rowRd 8 rfl)) (fun _ => rfl) rfl ?_
          refine D2_val rfl (fun _ => rfl) rfl (fun _ => (Y_move rfl)) ?_
          refine D2_call [0, 1] (by kernel_rfl) (fun _ => rfl) (fun _ => rfl) (bod rfl) (fun H w hK hs => mu _ _ _ w (Kn.rd hK hs 0 rfl) (Kn.rd hK hs 1 rfl) (hs.left.rowRd 9 rfl)) (fun _ => rfl) rfl ?_
          refine D2_val rfl (fun _ => rfl) rfl (fun _ => (Y_move rfl)) ?_
          refine D2_valM rfl (fun _ => rfl) rfl (fun _ => (Y_lenV rfl (und rfl) rfl (fun _ hs => Rd.st (by assumption) hs) (bel_length _ _))) ?_
          refine D2_call [2] (by kernel_rfl) (fun _ => rfl) (fun _ => rfl) (bod rfl) (fun H w hK hs => (by obtain ⟨j, h1, h2, h3⟩ := Kn.rdNR hK hs 0 rfl; exact bt j h1 (by omega) _ w h3)) (fun _ => rfl) rfl ?_
          refine D2_valK [3] (by kernel_rfl) rfl (fun _ => rfl) rfl (fun H hK => Y_toStr (und rfl) (und rfl) (und rfl) rfl fun w hs => (by first | exact Kn.rd hK hs 0 rfl | exact Kn.rd hK hs 1 rfl | exact Kn.rd hK hs 2 rfl | exact Kn.rd hK hs 3 rfl | exact Kn.rd hK hs 4 rfl | exact Kn.rd hK hs 5 rfl | exact hs.left.rowRd 0 rfl | exact hs.left.rowRd 1 rfl | exact hs.left.rowRd 2 rfl | exact hs.left.rowRd 3 rfl | exact hs.left.rowRd 4 rfl | exact hs.left.rowRd 5 rfl | exact hs.left.rowRd 6 rfl | exact hs.left.rowRd 7 rfl | exact hs.left.rowRd 8 rfl | exact hs.left.rowRd 9 rfl | exact hs.left.rowRd 10 rfl | exact hs.left.rowRd 11 rfl | exact hs.left.rowRd 12 rfl | exact hs.left.rowRd 13 rfl | exact Rd.st (by assumption) hs)) ?_
          refine D2_val rfl (fun _ => rfl) rfl (fun _ => (Y_eqlT_t rfl rfl rfl)) ?_
          refine D2_val rfl (fun _ => rfl) rfl (fun _ => (Y_pick_t rfl rfl)) ?_
          refine D2_val rfl (fun _ => rfl) rfl (fun _ => (Y_move rfl)) ?_
          refine D2_val rfl (fun _ => rfl) rfl (fun _ => (Y_move rfl)) ?_
          refine D2_call [] (by kernel_rfl) (fun _ => rfl) (fun _ => rfl) (bod rfl) (fun H w hK hs => oy _ w (hs.left.rowRd 4 rfl)) (fun _ => rfl) rfl ?_
          refine D2_val rfl (fun _ => rfl) rfl (fun _ => (Y_move rfl)) ?_
          refine D2_callV [4] (by kernel_rfl) (fun _ => rfl) (fun _ => rfl) (bod rfl) (fun H w hK hs => ls _ _ w (Kn.rd hK hs 0 rfl) (hs.left.rowRd 9 rfl)) (fun _ => rfl) rfl ?_
          refine D2_val rfl (fun _ => rfl) rfl (fun _ => (Y_pick_t rfl rfl)) ?_
          refine D2_val rfl (fun _ => rfl) rfl (fun _ => (Y_assign rfl)) ?_
          refine D2_nil fun H hK => ?_
          refine X_seq ?_
          refine T_ret ?_
          ((first | refine X_fin_ret ?_ | refine X_fin ?_); exact ⟨[_], [], .cons (.tmp rfl) .nil, Emb.nil _, rfl, rfl⟩)
end Go.Proofs.Ytchoncjikdfbgaa
