import Derived.Test.YtchoncjikdfbgaaDoorMod1
import Derived.Test.YtchoncjikdfbgaaDoorRN3
/- The reference of layer 9: powers. -/
namespace Go.Proofs.YtchoncjikdfbgaaDoor
open Go.RowKit
set_option maxRecDepth 20000
set_option maxHeartbeats 4000000

theorem r9of_any (n x : Nat) (_hx : x < 256 ^ n) (hn : n ≤ 100000) (v : Value) (w : World) (hr : Rd w v .u8 (bel n x)) : Fn Tryd.prog 65 #[v] w fun u N => N = [row .i64 (dl 256 n x) u] := by
  refine Fn_of (args := [v]) Tryd.func65 rfl Tryd.ntmps65 Tryd.results65 (by simp) ?_
  refine T_seq ?_
  refine T_region ?_
  refine S_val rfl rfl (Y_assign rfl) ?_
  refine S_nil ?_
  refine X_seq ?_
  refine T_seq ?_
  refine T_region ?_
  refine S_sliceR (und rfl) (siz rfl) (zer rfl) rfl rfl rfl rfl fun _ => ?_
  refine S_val rfl rfl (Y_assign rfl) ?_
  refine S_nil ?_
  refine X_seq ?_
  refine T_seq ?_
  refine T_seq ?_
  refine T_region ?_
  refine S_val rfl rfl (Y_move rfl) ?_
  refine S_val rfl rfl (Y_lenV rfl (und rfl) rfl (fun _ hs => Rd.st (by assumption) hs) (bel_length _ _)) ?_
  refine S_val rfl rfl (Y_sub rfl rfl (wi64 (by omega) (by omega))) ?_
  refine S_val rfl rfl (Y_assign rfl) ?_
  refine S_nil ?_
  refine X_seq ?_
  refine T_block ?_
  rename_i v0
  refine T_loopE (α := Nat × Value) (fun a => a.1 ≤ n)
    (fun a => [(0, v), (3, a.2), (4, .int .i64 ((a.1 : Int) - 1))])
    (fun a => [row .i64 (dl 256 (n - a.1) x) a.2])
    (fun a => a.1) (n, v0) (Nat.le_refl _) (by repeat (first | exact Env.sub_nil _ | (apply Env.sub_cons; rfl))) (by dsimp only; rw [Nat.sub_self]; exact Emb.refl _) ?_
  rintro ⟨j, u⟩ hj
  dsimp only at hj ⊢
  by_cases h : j = 0
  · subst h
    refine T_seq ?_
    refine T_seq ?_
    refine T_region ?_
    refine S_val rfl rfl (Y_move rfl) ?_
    refine S_val rfl rfl (Y_geq_f rfl rfl (by decide)) ?_
    refine S_nil ?_
    refine X_seq ?_
    refine T_cond_false rfl ?_
    refine T_exit ?_
    refine X_seq_exit ?_
    refine X_loop_exit ?_
    refine X_blk_hit rfl ?_
    refine X_seq ?_
    refine T_seq ?_
    refine T_region ?_
    refine S_val rfl rfl (Y_move rfl) ?_
    refine S_val rfl rfl (Y_assign rfl) ?_
    refine S_nil ?_
    refine X_seq ?_
    refine T_ret ?_
    ((first | refine X_fin_ret ?_ | refine X_fin ?_); exact ⟨[_], [_], .cons (.tmp rfl) .nil, Emb.one 0 rfl, rfl⟩)
  · obtain ⟨i, rfl⟩ : ∃ i, j = i + 1 := ⟨j - 1, by omega⟩
    rw [show (((i + 1 : Nat) : Int) - 1) = (i : Int) by omega]
    have hc := dig256_lt x (n - 1 - i)
    have he : dl 256 (n - i) x = dl 256 (n - (i + 1)) x ++ [((x / 256 ^ (n - 1 - i) % 256 : Nat) : Int)] := by
      rw [show n - i = (n - (i + 1)) + 1 by omega, dl_succ, show n - (i + 1) = n - 1 - i by omega]
    refine T_seq ?_
    refine T_seq ?_
    refine T_region ?_
    refine S_val rfl rfl (Y_move rfl) ?_
    refine S_val rfl rfl (Y_geq_t rfl rfl (by omega)) ?_
    refine S_nil ?_
    refine X_seq ?_
    refine T_cond_true rfl ?_
    refine T_skip ?_
    refine X_seq ?_
    refine T_seq ?_
    refine T_block ?_
    refine T_region ?_
    refine S_val rfl rfl (Y_move rfl) ?_
    refine S_val rfl rfl (Y_move rfl) ?_
    refine S_val rfl rfl (Y_move rfl) ?_
    refine S_val rfl rfl (Y_ixV (und rfl) (siz rfl) rfl rfl (fun _ hs => Rd.st (by assumption) hs) (nat_cast _) (by simp; omega)) ?_
    refine S_val rfl rfl (Y_loadV (und rfl) rfl rfl (fun _ hs => Rd.st (by assumption) hs) (bel_get (by assumption))) ?_
    refine S_val rfl rfl (Y_conv (und rfl) (und rfl) rfl (wi64 (by omega) (by omega))) ?_
    refine S_sliceR (und rfl) (siz rfl) (zer rfl) rfl rfl rfl rfl fun _ => ?_
    refine S_append 0 rfl (und rfl) (und rfl) (siz rfl) (byt rfl) (zer rfl) rfl rfl rfl (fun _ hs => hs.rowRd 1 rfl) (by simp; omega) rfl rfl rfl fun _ => ?_
    refine S_val rfl rfl (Y_assign rfl) ?_
    refine S_nil ?_
    refine X_blk ?_
    refine X_seq ?_
    refine T_region ?_
    refine S_val rfl rfl (Y_move rfl) ?_
    refine S_val rfl rfl (Y_sub rfl rfl (wi64 (by omega) (by omega))) ?_
    refine S_val rfl rfl (Y_assign rfl) ?_
    refine S_nil ?_
    refine X_loop ?_
    exact ⟨(i, _), by dsimp only; omega, by dsimp only; omega, (by repeat (first | exact Env.sub_nil _ | (apply Env.sub_cons; rfl))), by dsimp only; rw [he]; exact Emb.one 0 rfl⟩
theorem r9bytes_any (x m n : Nat) (hx : x < 256 ^ m) (hm : m ≤ 100000) (hn : n ≤ 100000) (v : Value) (w : World) (hr : Rd w v .i64 (dl 256 m x)) : Fn Tryd.prog 67 #[v, .int .i64 n] w fun u N => N = [row .u8 (bel n x) u] := by
  refine Fn_of (args := [v, .int .i64 n]) Tryd.func67 rfl Tryd.ntmps67 Tryd.results67 (by simp) ?_
  refine T_seq ?_
  refine T_region ?_
  refine S_val rfl rfl (Y_assign rfl) ?_
  refine S_nil ?_
  refine X_seq ?_
  refine T_seq ?_
  refine T_region ?_
  refine S_sliceR (und rfl) (siz rfl) (zer rfl) rfl rfl rfl rfl fun _ => ?_
  refine S_val rfl rfl (Y_assign rfl) ?_
  refine S_nil ?_
  refine X_seq ?_
  refine T_seq ?_
  refine T_seq ?_
  refine T_region ?_
  refine S_val rfl rfl (Y_move rfl) ?_
  refine S_val rfl rfl (Y_sub rfl rfl (wi64 (by omega) (by omega))) ?_
  refine S_val rfl rfl (Y_assign rfl) ?_
  refine S_nil ?_
  refine X_seq ?_
  refine T_block ?_
  rename_i v0
  refine T_loopE (α := Nat × Value) (fun a => a.1 ≤ n)
    (fun a => [(0, v), (5, a.2), (6, .int .i64 ((a.1 : Int) - 1))])
    (fun a => [row .u8 (bel (n - a.1) (x / 256 ^ a.1)) a.2])
    (fun a => a.1) (n, v0) (Nat.le_refl _) (by repeat (first | exact Env.sub_nil _ | (apply Env.sub_cons; rfl))) (by dsimp only; rw [Nat.sub_self]; exact Emb.refl _) ?_
  rintro ⟨j, u⟩ hj
  dsimp only at hj ⊢
  by_cases h : j = 0
  · subst h
    rw [Nat.sub_zero, Nat.pow_zero, Nat.div_one]
    refine T_seq ?_
    refine T_seq ?_
    refine T_region ?_
    refine S_val rfl rfl (Y_move rfl) ?_
    refine S_val rfl rfl (Y_geq_f rfl rfl (by decide)) ?_
    refine S_nil ?_
    refine X_seq ?_
    refine T_cond_false rfl ?_
    refine T_exit ?_
    refine X_seq_exit ?_
    refine X_loop_exit ?_
    refine X_blk_hit rfl ?_
    refine X_seq ?_
    refine T_seq ?_
    refine T_region ?_
    refine S_val rfl rfl (Y_move rfl) ?_
    refine S_val rfl rfl (Y_assign rfl) ?_
    refine S_nil ?_
    refine X_seq ?_
    refine T_ret ?_
    ((first | refine X_fin_ret ?_ | refine X_fin ?_); exact ⟨[_], [_], .cons (.tmp rfl) .nil, Emb.one 0 rfl, rfl⟩)
  · obtain ⟨i, rfl⟩ : ∃ i, j = i + 1 := ⟨j - 1, by omega⟩
    rw [show (((i + 1 : Nat) : Int) - 1) = (i : Int) by omega]
    have hc := dig256_lt x i
    have he : bel (n - i) (x / 256 ^ i) = bel (n - (i + 1)) (x / 256 ^ (i + 1)) ++ [((x / 256 ^ i % 256 : Nat) : Int)] := by
      rw [bel_snoc _ _ _ hc, show n - i = (n - (i + 1)) + 1 by omega, Nat.pow_succ, ← Nat.div_div_eq_div_mul]
      congr 1
      omega
    by_cases h2 : i < m
    · refine T_seq ?_
      refine T_seq ?_
      refine T_region ?_
      refine S_val rfl rfl (Y_move rfl) ?_
      refine S_val rfl rfl (Y_geq_t rfl rfl (by omega)) ?_
      refine S_nil ?_
      refine X_seq ?_
      refine T_cond_true rfl ?_
      refine T_skip ?_
      refine X_seq ?_
      refine T_seq ?_
      refine T_block ?_
      refine T_seq ?_
      refine T_region ?_
      refine S_val rfl rfl (Y_assign rfl) ?_
      refine S_nil ?_
      refine X_seq ?_
      refine T_seq ?_
      refine T_seq ?_
      refine T_region ?_
      refine S_val rfl rfl (Y_move rfl) ?_
      refine S_val rfl rfl (Y_move rfl) ?_
      refine S_val rfl rfl (Y_lenV rfl (und rfl) rfl (fun _ hs => Rd.st (by assumption) hs) (dl_length _ _ _)) ?_
      refine S_val rfl rfl (Y_lss_t rfl rfl (by omega)) ?_
      refine S_nil ?_
      refine X_seq ?_
      refine T_cond_true rfl ?_
      refine T_region ?_
      refine S_val rfl rfl (Y_move rfl) ?_
      refine S_val rfl rfl (Y_move rfl) ?_
      refine S_val rfl rfl (Y_ixV (und rfl) (siz rfl) rfl rfl (fun _ hs => Rd.st (by assumption) hs) (nat_cast _) (dl_lt (by assumption))) ?_
      refine S_val rfl rfl (Y_loadV (und rfl) rfl rfl (fun _ hs => Rd.st (by assumption) hs) (dl_get (by assumption))) ?_
      refine S_val rfl rfl (Y_assign rfl) ?_
      refine S_nil ?_
      refine X_seq ?_
      refine T_region ?_
      refine S_val rfl rfl (Y_move rfl) ?_
      refine S_val rfl rfl (Y_move rfl) ?_
      refine S_val rfl rfl (Y_conv (und rfl) (und rfl) rfl (wu8 (by omega) (by omega))) ?_
      refine S_sliceR (und rfl) (siz rfl) (zer rfl) rfl rfl rfl rfl fun _ => ?_
      refine S_append 0 rfl (und rfl) (und rfl) (siz rfl) (byt rfl) (zer rfl) rfl rfl rfl (fun _ hs => hs.rowRd 1 rfl) (by simp; omega) rfl rfl rfl fun _ => ?_
      refine S_val rfl rfl (Y_assign rfl) ?_
      refine S_nil ?_
      refine X_blk ?_
      refine X_seq ?_
      refine T_region ?_
      refine S_val rfl rfl (Y_move rfl) ?_
      refine S_val rfl rfl (Y_sub rfl rfl (wi64 (by omega) (by omega))) ?_
      refine S_val rfl rfl (Y_assign rfl) ?_
      refine S_nil ?_
      refine X_loop ?_
      exact ⟨(i, _), by dsimp only; omega, by dsimp only; omega, (by repeat (first | exact Env.sub_nil _ | (apply Env.sub_cons; rfl))), by dsimp only; rw [he]; exact Emb.one 0 rfl⟩
    · have hz : x / 256 ^ i % 256 = 0 := dig_high' (by omega) hx (by omega)
      rw [hz] at he
      refine T_seq ?_
      refine T_seq ?_
      refine T_region ?_
      refine S_val rfl rfl (Y_move rfl) ?_
      refine S_val rfl rfl (Y_geq_t rfl rfl (by omega)) ?_
      refine S_nil ?_
      refine X_seq ?_
      refine T_cond_true rfl ?_
      refine T_skip ?_
      refine X_seq ?_
      refine T_seq ?_
      refine T_block ?_
      refine T_seq ?_
      refine T_region ?_
      refine S_val rfl rfl (Y_assign rfl) ?_
      refine S_nil ?_
      refine X_seq ?_
      refine T_seq ?_
      refine T_seq ?_
      refine T_region ?_
      refine S_val rfl rfl (Y_move rfl) ?_
      refine S_val rfl rfl (Y_move rfl) ?_
      refine S_val rfl rfl (Y_lenV rfl (und rfl) rfl (fun _ hs => Rd.st (by assumption) hs) (dl_length _ _ _)) ?_
      refine S_val rfl rfl (Y_lss_f rfl rfl (by omega)) ?_
      refine S_nil ?_
      refine X_seq ?_
      refine T_cond_false rfl ?_
      refine T_skip ?_
      refine X_seq ?_
      refine T_region ?_
      refine S_val rfl rfl (Y_move rfl) ?_
      refine S_val rfl rfl (Y_move rfl) ?_
      refine S_val rfl rfl (Y_conv (und rfl) (und rfl) rfl (wu8 (by omega) (by omega))) ?_
      refine S_sliceR (und rfl) (siz rfl) (zer rfl) rfl rfl rfl rfl fun _ => ?_
      refine S_append 0 rfl (und rfl) (und rfl) (siz rfl) (byt rfl) (zer rfl) rfl rfl rfl (fun _ hs => hs.rowRd 1 rfl) (by simp; omega) rfl rfl rfl fun _ => ?_
      refine S_val rfl rfl (Y_assign rfl) ?_
      refine S_nil ?_
      refine X_blk ?_
      refine X_seq ?_
      refine T_region ?_
      refine S_val rfl rfl (Y_move rfl) ?_
      refine S_val rfl rfl (Y_sub rfl rfl (wi64 (by omega) (by omega))) ?_
      refine S_val rfl rfl (Y_assign rfl) ?_
      refine S_nil ?_
      refine X_loop ?_
      exact ⟨(i, _), by dsimp only; omega, by dsimp only; omega, (by repeat (first | exact Env.sub_nil _ | (apply Env.sub_cons; rfl))), by dsimp only; rw [he]; exact Emb.one 0 rfl⟩
/-- A number of the reference, of at most so many digits. -/
def NR (k r : Nat) (u : Value) (N : Hp) : Prop := ∃ j, r < 256 ^ j ∧ j ≤ k ∧ N = [row .i64 (dl 256 j r) u]
theorem r9mul_any (x y M n m k : Nat) (hx : x < 256 ^ n) (hy : y < 256 ^ m) (hM : M < 256 ^ k) (h0 : M ≠ 0) (hn : n ≤ 100000) (hm : m ≤ 100000) (hk : k ≤ 100000) (v u z : Value) (w : World)
    (hv : Rd w v .i64 (dl 256 n x)) (hu : Rd w u .i64 (dl 256 m y)) (hz : Rd w z .i64 (dl 256 k M)) : Fn Tryd.prog 66 #[v, u, z] w (NR k (x * y % M)) := by
  have t := fun w h h' => ntimes_any x y n m hx hy (by omega) (by omega) v u w h h'
  have hxy : x * y < 256 ^ (n + m + 1) := by
    rw [Nat.pow_succ, Nat.pow_add]
    have := Nat.mul_lt_mul'' hx hy
    omega
  have d := fun v2 w h h' => ndiv_any (x * y) M (n + m + 1) k hxy hM (by omega) (by omega) v2 z w h h'
  simp only [if_neg h0] at d
  clear hxy
  generalize x * y = p at *
  refine Fn_of (args := [v, u, z]) Tryd.func66 rfl Tryd.ntmps66 Tryd.results66 (by simp) ?_
  refine T_seq ?_
  refine T_region ?_
  refine S_val rfl rfl (Y_assign rfl) ?_
  refine S_nil ?_
  refine X_seq ?_
  refine T_seq ?_
  refine T_region ?_
  refine S_val rfl rfl (Y_move rfl) ?_
  refine S_val rfl rfl (Y_move rfl) ?_
  refine S_callR _ rfl rfl (bod rfl) (fun w hs => t _ (by first | exact hs.rowRd 0 rfl | exact hs.rowRd 1 rfl | exact hs.rowRd 2 rfl | exact hs.rowRd 3 rfl | exact hs.rowRd 4 rfl | exact hs.rowRd 5 rfl | exact hs.rowRd 6 rfl | exact hs.rowRd 7 rfl | exact hs.rowRd 8 rfl | exact hs.rowRd 9 rfl | exact hs.rowRd 10 rfl | exact hs.rowRd 11 rfl | exact hs.rowRd 12 rfl | exact hs.rowRd 13 rfl | exact Rd.st (by assumption) hs) (by first | exact hs.rowRd 0 rfl | exact hs.rowRd 1 rfl | exact hs.rowRd 2 rfl | exact hs.rowRd 3 rfl | exact hs.rowRd 4 rfl | exact hs.rowRd 5 rfl | exact hs.rowRd 6 rfl | exact hs.rowRd 7 rfl | exact hs.rowRd 8 rfl | exact hs.rowRd 9 rfl | exact hs.rowRd 10 rfl | exact hs.rowRd 11 rfl | exact hs.rowRd 12 rfl | exact hs.rowRd 13 rfl | exact Rd.st (by assumption) hs)) rfl rfl fun _ => ?_
  refine S_val rfl rfl (Y_move rfl) ?_
  refine S_call _ rfl rfl (bod rfl) (fun w hs => d _ _ (by first | exact hs.rowRd 0 rfl | exact hs.rowRd 1 rfl | exact hs.rowRd 2 rfl | exact hs.rowRd 3 rfl | exact hs.rowRd 4 rfl | exact hs.rowRd 5 rfl | exact hs.rowRd 6 rfl | exact hs.rowRd 7 rfl | exact hs.rowRd 8 rfl | exact hs.rowRd 9 rfl | exact hs.rowRd 10 rfl | exact hs.rowRd 11 rfl | exact hs.rowRd 12 rfl | exact hs.rowRd 13 rfl | exact Rd.st (by assumption) hs) (by first | exact hs.rowRd 0 rfl | exact hs.rowRd 1 rfl | exact hs.rowRd 2 rfl | exact hs.rowRd 3 rfl | exact hs.rowRd 4 rfl | exact hs.rowRd 5 rfl | exact hs.rowRd 6 rfl | exact hs.rowRd 7 rfl | exact hs.rowRd 8 rfl | exact hs.rowRd 9 rfl | exact hs.rowRd 10 rfl | exact hs.rowRd 11 rfl | exact hs.rowRd 12 rfl | exact hs.rowRd 13 rfl | exact Rd.st (by assumption) hs)) rfl rfl ?_
  rintro _ _ ⟨j, r, v1, v2, rfl, hrj, hj, rfl, rfl⟩
  refine S_val rfl rfl (Y_move rfl) ?_
  refine S_val rfl rfl (Y_extract rfl rfl) ?_
  refine S_val rfl rfl (Y_extract rfl rfl) ?_
  refine S_val rfl rfl (Y_assign rfl) ?_
  refine S_val rfl rfl (Y_assign rfl) ?_
  refine S_nil ?_
  refine X_seq ?_
  refine T_seq ?_
  refine T_region ?_
  refine S_val rfl rfl (Y_move rfl) ?_
  refine S_val rfl rfl (Y_assign rfl) ?_
  refine S_nil ?_
  refine X_seq ?_
  refine T_ret ?_
  ((first | refine X_fin_ret ?_ | refine X_fin ?_); exact ⟨[_], [_], .cons (.tmp rfl) .nil, Emb.one 2 rfl, ⟨j, hrj, hj, rfl⟩⟩)
theorem low_step (b M A T c k : Nat) : b ^ (A + c % 2 ^ (k + 1) * T) % M = (if c / 2 ^ k % 2 = 1 then (b ^ (A + c % 2 ^ k * T) % M) * (b ^ (T * 2 ^ k) % M) % M else b ^ (A + c % 2 ^ k * T) % M) := by
  have e : c % 2 ^ (k + 1) = c % 2 ^ k + c / 2 ^ k % 2 * 2 ^ k := mod_pow_succ' c 2 k
  rw [e]
  split
  · rename_i h
    rw [h, Nat.one_mul, Nat.add_mul, ← Nat.add_assoc, Nat.mul_comm (2 ^ k) T, Nat.pow_add, Nat.mul_mod]
  · rename_i h
    rw [show c / 2 ^ k % 2 = 0 by omega, Nat.zero_mul, Nat.add_zero]
theorem sq_step (b M T k : Nat) : b ^ (T * 2 ^ (k + 1)) % M = (b ^ (T * 2 ^ k) % M) * (b ^ (T * 2 ^ k) % M) % M := by
  rw [Nat.pow_succ, show T * (2 ^ k * 2) = T * 2 ^ k + T * 2 ^ k by rw [Nat.mul_two, Nat.mul_add], Nat.pow_add, Nat.mul_mod]
theorem r9pow_any (i0 b n e k M : Nat) (hb : b < 256 ^ i0) (he : e < 256 ^ n) (hM : M < 256 ^ k) (hi : i0 ≤ 1000) (hn : n ≤ 1000) (hk : k ≤ 1000) (v0 v1 v2 : Value) (w : World)
    (r0 : Rd w v0 .u8 (bel i0 b)) (r1 : Rd w v1 .u8 (bel n e)) (r2 : Rd w v2 .u8 (bel k M)) : Fn Tryd.prog 44 #[v0, v1, v2] w fun u N => N = [row .u8 (bel k (if M = 0 then 0 else b ^ e % M)) u] := by
  have o2 := fun w h => r9of_any k M hM (by omega) v2 w h
  have z2 := fun v w h => nzero_any M k hM (by omega) v w h
  by_cases h0 : M = 0
  · rw [if_pos h0, bel_zero]
    rw [decide_eq_true h0] at z2
    refine Fn_of (args := [v0, v1, v2]) Tryd.func44 rfl Tryd.ntmps44 Tryd.results44 (by simp) ?_
    refine T_seq ?_
    refine T_region ?_
    refine S_val rfl rfl (Y_assign rfl) ?_
    refine S_nil ?_
    refine X_seq ?_
    refine T_seq ?_
    refine T_region ?_
    refine S_val rfl rfl (Y_move rfl) ?_
    refine S_callR _ rfl rfl (bod rfl) (fun w hs => o2 _ (by first | exact hs.rowRd 0 rfl | exact hs.rowRd 1 rfl | exact hs.rowRd 2 rfl | exact hs.rowRd 3 rfl | exact hs.rowRd 4 rfl | exact hs.rowRd 5 rfl | exact hs.rowRd 6 rfl | exact hs.rowRd 7 rfl | exact hs.rowRd 8 rfl | exact hs.rowRd 9 rfl | exact hs.rowRd 10 rfl | exact hs.rowRd 11 rfl | exact hs.rowRd 12 rfl | exact hs.rowRd 13 rfl | exact Rd.st (by assumption) hs)) rfl rfl fun _ => ?_
    refine S_val rfl rfl (Y_assign rfl) ?_
    refine S_nil ?_
    refine X_seq ?_
    refine T_seq ?_
    refine T_seq ?_
    refine T_region ?_
    refine S_val rfl rfl (Y_move rfl) ?_
    refine S_callV rfl rfl (bod rfl) (fun w hs => z2 _ _ (by first | exact hs.rowRd 0 rfl | exact hs.rowRd 1 rfl | exact hs.rowRd 2 rfl | exact hs.rowRd 3 rfl | exact hs.rowRd 4 rfl | exact hs.rowRd 5 rfl | exact hs.rowRd 6 rfl | exact hs.rowRd 7 rfl | exact hs.rowRd 8 rfl | exact hs.rowRd 9 rfl | exact hs.rowRd 10 rfl | exact hs.rowRd 11 rfl | exact hs.rowRd 12 rfl | exact hs.rowRd 13 rfl | exact Rd.st (by assumption) hs)) rfl rfl ?_
    refine S_nil ?_
    refine X_seq ?_
    refine T_cond_true rfl ?_
    refine T_seq ?_
    refine T_region ?_
    refine S_val rfl rfl (Y_move rfl) ?_
    refine S_val rfl rfl (Y_lenV rfl (und rfl) rfl (fun _ hs => Rd.st (by assumption) hs) (bel_length _ _)) ?_
    refine S_makeR (und rfl) (siz rfl) (byt rfl) (zer rfl) rfl rfl (nat_cast _) (by omega) rfl rfl rfl fun _ => ?_
    refine S_val rfl rfl (Y_assign rfl) ?_
    refine S_nil ?_
    refine X_seq ?_
    refine T_ret ?_
    refine X_seq_ret ?_
    ((first | refine X_fin_ret ?_ | refine X_fin ?_); exact ⟨[_], [_], .cons (.tmp rfl) .nil, Emb.one 1 rfl, rfl⟩)
  · rw [if_neg h0]
    rw [decide_eq_false h0] at z2
    have hM0 : 0 < M := by omega
    have o0 := fun w h => r9of_any i0 b hb (by omega) v0 w h
    have d0 := fun v u w h h' => ndiv_any b M i0 k hb hM (by omega) (by omega) v u w h h'
    have d1 := fun v u w h h' => ndiv_any 1 M 1 k (by omega) hM (by omega) (by omega) v u w h h'
    simp only [if_neg h0] at d0 d1
    refine Fn_of (args := [v0, v1, v2]) Tryd.func44 rfl Tryd.ntmps44 Tryd.results44 (by simp) ?_
    refine T_seq ?_
    refine T_region ?_
    refine S_val rfl rfl (Y_assign rfl) ?_
    refine S_nil ?_
    refine X_seq ?_
    refine T_seq ?_
    refine T_region ?_
    refine S_val rfl rfl (Y_move rfl) ?_
    refine S_callR _ rfl rfl (bod rfl) (fun w hs => o2 _ (by first | exact hs.rowRd 0 rfl | exact hs.rowRd 1 rfl | exact hs.rowRd 2 rfl | exact hs.rowRd 3 rfl | exact hs.rowRd 4 rfl | exact hs.rowRd 5 rfl | exact hs.rowRd 6 rfl | exact hs.rowRd 7 rfl | exact hs.rowRd 8 rfl | exact hs.rowRd 9 rfl | exact hs.rowRd 10 rfl | exact hs.rowRd 11 rfl | exact hs.rowRd 12 rfl | exact hs.rowRd 13 rfl | exact Rd.st (by assumption) hs)) rfl rfl fun _ => ?_
    refine S_val rfl rfl (Y_assign rfl) ?_
    refine S_nil ?_
    refine X_seq ?_
    refine T_seq ?_
    refine T_seq ?_
    refine T_region ?_
    refine S_val rfl rfl (Y_move rfl) ?_
    refine S_callV rfl rfl (bod rfl) (fun w hs => z2 _ _ (by first | exact hs.rowRd 0 rfl | exact hs.rowRd 1 rfl | exact hs.rowRd 2 rfl | exact hs.rowRd 3 rfl | exact hs.rowRd 4 rfl | exact hs.rowRd 5 rfl | exact hs.rowRd 6 rfl | exact hs.rowRd 7 rfl | exact hs.rowRd 8 rfl | exact hs.rowRd 9 rfl | exact hs.rowRd 10 rfl | exact hs.rowRd 11 rfl | exact hs.rowRd 12 rfl | exact hs.rowRd 13 rfl | exact Rd.st (by assumption) hs)) rfl rfl ?_
    refine S_nil ?_
    refine X_seq ?_
    refine T_cond_false rfl ?_
    refine T_skip ?_
    refine X_seq ?_
    refine T_seq ?_
    refine T_region ?_
    refine S_val rfl rfl (Y_move rfl) ?_
    refine S_callR _ rfl rfl (bod rfl) (fun w hs => o0 _ (by first | exact hs.rowRd 0 rfl | exact hs.rowRd 1 rfl | exact hs.rowRd 2 rfl | exact hs.rowRd 3 rfl | exact hs.rowRd 4 rfl | exact hs.rowRd 5 rfl | exact hs.rowRd 6 rfl | exact hs.rowRd 7 rfl | exact hs.rowRd 8 rfl | exact hs.rowRd 9 rfl | exact hs.rowRd 10 rfl | exact hs.rowRd 11 rfl | exact hs.rowRd 12 rfl | exact hs.rowRd 13 rfl | exact Rd.st (by assumption) hs)) rfl rfl fun _ => ?_
    refine S_val rfl rfl (Y_move rfl) ?_
    refine S_call _ rfl rfl (bod rfl) (fun w hs => d0 _ _ _ (by first | exact hs.rowRd 0 rfl | exact hs.rowRd 1 rfl | exact hs.rowRd 2 rfl | exact hs.rowRd 3 rfl | exact hs.rowRd 4 rfl | exact hs.rowRd 5 rfl | exact hs.rowRd 6 rfl | exact hs.rowRd 7 rfl | exact hs.rowRd 8 rfl | exact hs.rowRd 9 rfl | exact hs.rowRd 10 rfl | exact hs.rowRd 11 rfl | exact hs.rowRd 12 rfl | exact hs.rowRd 13 rfl | exact Rd.st (by assumption) hs) (by first | exact hs.rowRd 0 rfl | exact hs.rowRd 1 rfl | exact hs.rowRd 2 rfl | exact hs.rowRd 3 rfl | exact hs.rowRd 4 rfl | exact hs.rowRd 5 rfl | exact hs.rowRd 6 rfl | exact hs.rowRd 7 rfl | exact hs.rowRd 8 rfl | exact hs.rowRd 9 rfl | exact hs.rowRd 10 rfl | exact hs.rowRd 11 rfl | exact hs.rowRd 12 rfl | exact hs.rowRd 13 rfl | exact Rd.st (by assumption) hs)) rfl rfl ?_
    rintro _ _ ⟨jb, rb, q1, vb, hrb, hrj, hjb, rfl, rfl⟩
    refine S_val rfl rfl (Y_move rfl) ?_
    refine S_val rfl rfl (Y_extract rfl rfl) ?_
    refine S_val rfl rfl (Y_extract rfl rfl) ?_
    refine S_val rfl rfl (Y_assign rfl) ?_
    refine S_val rfl rfl (Y_assign rfl) ?_
    refine S_nil ?_
    refine X_seq ?_
    refine T_seq ?_
    refine T_region ?_
    refine S_sliceR (und rfl) (siz rfl) (zer rfl) rfl rfl rfl rfl fun _ => ?_
    refine S_val rfl rfl (Y_move rfl) ?_
    refine S_call _ rfl rfl (bod rfl) (fun w hs => d1 _ _ _ (hs.rowRd 4 rfl) (by first | exact hs.rowRd 0 rfl | exact hs.rowRd 1 rfl | exact hs.rowRd 2 rfl | exact hs.rowRd 3 rfl | exact hs.rowRd 4 rfl | exact hs.rowRd 5 rfl | exact hs.rowRd 6 rfl | exact hs.rowRd 7 rfl | exact hs.rowRd 8 rfl | exact hs.rowRd 9 rfl | exact hs.rowRd 10 rfl | exact hs.rowRd 11 rfl | exact hs.rowRd 12 rfl | exact hs.rowRd 13 rfl | exact Rd.st (by assumption) hs)) rfl rfl ?_
    rintro _ _ ⟨jo, ro, q2, vo, hro, hroj, hjo, rfl, rfl⟩
    refine S_val rfl rfl (Y_move rfl) ?_
    refine S_val rfl rfl (Y_extract rfl rfl) ?_
    refine S_val rfl rfl (Y_extract rfl rfl) ?_
    refine S_val rfl rfl (Y_assign rfl) ?_
    refine S_val rfl rfl (Y_assign rfl) ?_
    refine S_nil ?_
    refine X_seq ?_
    refine T_seq ?_
    refine T_seq ?_
    refine T_region ?_
    refine S_val rfl rfl (Y_move rfl) ?_
    refine S_val rfl rfl (Y_lenV rfl (und rfl) rfl (fun _ hs => Rd.st (by assumption) hs) (bel_length _ _)) ?_
    refine S_val rfl rfl (Y_sub rfl rfl (wi64 (by omega) (by omega))) ?_
    refine S_val rfl rfl (Y_assign rfl) ?_
    refine S_nil ?_
    refine X_seq ?_
    refine T_block ?_
    rename_i vm _ _
    refine T_loopE (α := Nat × (Nat × Value) × (Nat × Value)) (fun a => a.1 ≤ n ∧ (b ^ 256 ^ (n - a.1) % M < 256 ^ a.2.1.1 ∧ a.2.1.1 ≤ k) ∧ (b ^ (e % 256 ^ (n - a.1)) % M < 256 ^ a.2.2.1 ∧ a.2.2.1 ≤ k))
      (fun a => [(1, v1), (2, v2), (7, vm), (9, a.2.1.2), (11, a.2.2.2), (12, .int .i64 ((a.1 : Int) - 1))])
      (fun a => [row .i64 (dl 256 k M) vm, row .i64 (dl 256 a.2.1.1 (b ^ 256 ^ (n - a.1) % M)) a.2.1.2, row .i64 (dl 256 a.2.2.1 (b ^ (e % 256 ^ (n - a.1)) % M)) a.2.2.2])
      (fun a => a.1) (n, (jb, vb), (jo, vo)) (by
        dsimp only
        rw [Nat.sub_self, Nat.pow_zero, Nat.pow_one, Nat.mod_one, Nat.pow_zero, ← hrb, ← hro]
        exact ⟨Nat.le_refl _, ⟨hrj, hjb⟩, ⟨hroj, hjo⟩⟩) (by repeat (first | exact Env.sub_nil _ | (apply Env.sub_cons; rfl))) (by
        dsimp only
        rw [Nat.sub_self, Nat.pow_zero, Nat.pow_one, Nat.mod_one, Nat.pow_zero, ← hrb, ← hro]
        exact Emb.idx [0, 3, 6] rfl rfl) ?_
    clear hrb hrj hjb hro hroj hjo
    rintro ⟨j, ⟨jb, vb⟩, ⟨jo, vo⟩⟩ ⟨hj, ⟨hb1, hb2⟩, ⟨ho1, ho2⟩⟩
    dsimp only at hj hb1 hb2 ho1 ho2 ⊢
    by_cases h : j = 0
    · subst h
      rw [Nat.sub_zero, Nat.mod_eq_of_lt he] at ho1 ⊢
      have bt := fun v w h => r9bytes_any (b ^ e % M) jo k ho1 (by omega) (by omega) v w h
      generalize b ^ e % M = z at *
      clear hb1
      refine T_seq ?_
      refine T_seq ?_
      refine T_region ?_
      refine S_val rfl rfl (Y_move rfl) ?_
      refine S_val rfl rfl (Y_geq_f rfl rfl (by decide)) ?_
      refine S_nil ?_
      refine X_seq ?_
      refine T_cond_false rfl ?_
      refine T_exit ?_
      refine X_seq_exit ?_
      refine X_loop_exit ?_
      refine X_blk_hit rfl ?_
      refine X_seq ?_
      refine T_seq ?_
      refine T_region ?_
      refine S_val rfl rfl (Y_move rfl) ?_
      refine S_val rfl rfl (Y_move rfl) ?_
      refine S_val rfl rfl (Y_lenV rfl (und rfl) rfl (fun _ hs => Rd.st (by assumption) hs) (bel_length _ _)) ?_
      refine S_callR _ rfl rfl (bod rfl) (fun w hs => bt _ _ (by first | exact hs.rowRd 0 rfl | exact hs.rowRd 1 rfl | exact hs.rowRd 2 rfl | exact hs.rowRd 3 rfl | exact hs.rowRd 4 rfl | exact hs.rowRd 5 rfl | exact hs.rowRd 6 rfl | exact hs.rowRd 7 rfl | exact hs.rowRd 8 rfl | exact hs.rowRd 9 rfl | exact hs.rowRd 10 rfl | exact hs.rowRd 11 rfl | exact hs.rowRd 12 rfl | exact hs.rowRd 13 rfl | exact Rd.st (by assumption) hs)) rfl rfl fun _ => ?_
      refine S_val rfl rfl (Y_assign rfl) ?_
      refine S_nil ?_
      refine X_seq ?_
      refine T_ret ?_
      ((first | refine X_fin_ret ?_ | refine X_fin ?_); exact ⟨[_], [_], .cons (.tmp rfl) .nil, Emb.one 3 rfl, rfl⟩)
    · obtain ⟨i, rfl⟩ : ∃ i, j = i + 1 := ⟨j - 1, by omega⟩
      rw [show (((i + 1 : Nat) : Int) - 1) = (i : Int) by omega]
      obtain ⟨c, hcd⟩ : ∃ c, c = e / 256 ^ (n - 1 - i) % 256 := ⟨_, rfl⟩
      have hc : c < 256 := by rw [hcd]; exact Nat.mod_lt _ (by omega)
      have hT : 256 ^ (n - i) = 256 ^ (n - (i + 1)) * 2 ^ 8 := by rw [show n - i = n - (i + 1) + 1 by omega, Nat.pow_succ]
      have hA : e % 256 ^ (n - i) = e % 256 ^ (n - (i + 1)) + c % 2 ^ 8 * 256 ^ (n - (i + 1)) := by
        rw [show n - i = n - (i + 1) + 1 by omega, mod_pow_succ', hcd, show n - 1 - i = n - (i + 1) by omega, Nat.mod_mod]
      clear o0 o2 d0 d1 z2 hb
      refine T_seq ?_
      refine T_seq ?_
      refine T_region ?_
      refine S_val rfl rfl (Y_move rfl) ?_
      refine S_val rfl rfl (Y_geq_t rfl rfl (by omega)) ?_
      refine S_nil ?_
      refine X_seq ?_
      refine T_cond_true rfl ?_
      refine T_skip ?_
      refine X_seq ?_
      refine T_seq ?_
      refine T_block ?_
      refine T_seq ?_
      refine T_region ?_
      refine S_val rfl rfl (Y_move rfl) ?_
      refine S_val rfl rfl (Y_move rfl) ?_
      refine S_val rfl rfl (Y_ixV (und rfl) (siz rfl) rfl rfl (fun _ hs => Rd.st (by assumption) hs) (nat_cast _) (by simp; omega)) ?_
      refine S_val rfl rfl (Y_loadV (und rfl) rfl rfl (fun _ hs => Rd.st (by assumption) hs) (bel_get (by assumption))) ?_
      refine S_val rfl rfl (Y_assign rfl) ?_
      refine S_nil ?_
      refine X_seq ?_
      refine T_seq ?_
      refine T_region ?_
      refine S_val rfl rfl (Y_assign rfl) ?_
      refine S_nil ?_
      refine X_seq ?_
      refine T_block ?_
      rw [← hcd]
      clear hcd he
      refine T_loopE (α := Nat × (Nat × Value) × (Nat × Value)) (fun a => a.1 ≤ 8 ∧ (b ^ (256 ^ (n - (i + 1)) * 2 ^ a.1) % M < 256 ^ a.2.1.1 ∧ a.2.1.1 ≤ k) ∧ (b ^ (e % 256 ^ (n - (i + 1)) + c % 2 ^ a.1 * 256 ^ (n - (i + 1))) % M < 256 ^ a.2.2.1 ∧ a.2.2.1 ≤ k))
        (fun a => [(1, v1), (2, v2), (7, vm), (9, a.2.1.2), (11, a.2.2.2), (12, .int .i64 i), (13, .int .u8 ((c / 2 ^ a.1 : Nat) : Int)), (14, .int .i64 a.1)])
        (fun a => [row .i64 (dl 256 k M) vm, row .i64 (dl 256 a.2.1.1 (b ^ (256 ^ (n - (i + 1)) * 2 ^ a.1) % M)) a.2.1.2, row .i64 (dl 256 a.2.2.1 (b ^ (e % 256 ^ (n - (i + 1)) + c % 2 ^ a.1 * 256 ^ (n - (i + 1))) % M)) a.2.2.2])
        (fun a => 8 - a.1) (0, (jb, vb), (jo, vo)) (by
          dsimp only
          rw [Nat.pow_zero, Nat.mul_one, Nat.mod_one, Nat.zero_mul, Nat.add_zero]
          exact ⟨by omega, ⟨hb1, hb2⟩, ⟨ho1, ho2⟩⟩) (by dsimp only; rw [Nat.pow_zero, Nat.div_one]; exact (by repeat (first | exact Env.sub_nil _ | (apply Env.sub_cons; rfl)))) (by
          dsimp only
          rw [Nat.pow_zero, Nat.mul_one, Nat.mod_one, Nat.zero_mul, Nat.add_zero]
          exact Emb.refl _) ?_
      clear hb1 hb2 ho1 ho2
      rintro ⟨t, ⟨jb, vb⟩, ⟨jo, vo⟩⟩ ⟨ht, ⟨hb1, hb2⟩, ⟨ho1, ho2⟩⟩
      dsimp only at ht hb1 hb2 ho1 ho2 ⊢
      by_cases h2 : t < 8
      · have hcu : ((c / 2 ^ t / 2 : Nat) : Int) = ((c / 2 ^ (t + 1) : Nat) : Int) := by rw [Nat.pow_succ, Nat.div_div_eq_div_mul]
        have hc2 : c / 2 ^ t < 256 := Nat.lt_of_le_of_lt (Nat.div_le_self _ _) hc
        have ls := low_step b M (e % 256 ^ (n - (i + 1))) (256 ^ (n - (i + 1))) c t
        have ss := sq_step b M (256 ^ (n - (i + 1))) t
        have m2 := fun v z w h hz => r9mul_any (b ^ (256 ^ (n - (i + 1)) * 2 ^ t) % M) (b ^ (256 ^ (n - (i + 1)) * 2 ^ t) % M) M jb jb k hb1 hb1 hM h0 (by omega) (by omega) (by omega) v v z w h h hz
        rw [← ss] at m2
        rcases Nat.mod_two_eq_zero_or_one (c / 2 ^ t) with hbit | hbit
        · rw [hbit, if_neg (by omega)] at ls
          have hbi : ¬ ((c / 2 ^ t % 2 : Nat) : Int) = 1 := by rw [hbit]; omega
          clear ss hbit hA hT
          refine T_seq ?_
          refine T_seq ?_
          refine T_region ?_
          refine S_val rfl rfl (Y_move rfl) ?_
          refine S_val rfl rfl (Y_lss_t rfl rfl (by omega)) ?_
          refine S_nil ?_
          refine X_seq ?_
          refine T_cond_true rfl ?_
          refine T_skip ?_
          refine X_seq ?_
          refine T_seq ?_
          refine T_block ?_
          refine T_seq ?_
          refine T_seq ?_
          refine T_region ?_
          refine S_val rfl rfl (Y_move rfl) ?_
          refine S_val rfl rfl (Y_remN rfl rfl (nat_cast _) (nat_lit' _) (Nat.succ_ne_zero _)) ?_
          refine S_val rfl rfl (Y_eql_f rfl rfl (by assumption)) ?_
          refine S_nil ?_
          refine X_seq ?_
          refine T_cond_false rfl ?_
          refine T_skip ?_
          refine X_seq ?_
          refine T_seq ?_
          refine T_region ?_
          refine S_val rfl rfl (Y_move rfl) ?_
          refine S_val rfl rfl (Y_quoN rfl rfl (nat_cast _) (nat_lit' _) (Nat.succ_ne_zero _) (by first | with_reducible exact xi64 (by omega) | with_reducible exact x64 (by omega) | with_reducible exact x8 (by omega) | with_reducible exact x32 (by omega))) ?_
          refine S_val rfl rfl (Y_assign rfl) ?_
          refine S_nil ?_
          refine X_seq ?_
          refine T_region ?_
          refine S_val rfl rfl (Y_move rfl) ?_
          refine S_val rfl rfl (Y_move rfl) ?_
          refine S_val rfl rfl (Y_move rfl) ?_
          refine S_call _ rfl rfl (bod rfl) (fun w hs => m2 _ _ _ (by first | exact hs.rowRd 0 rfl | exact hs.rowRd 1 rfl | exact hs.rowRd 2 rfl | exact hs.rowRd 3 rfl | exact hs.rowRd 4 rfl | exact hs.rowRd 5 rfl | exact hs.rowRd 6 rfl | exact hs.rowRd 7 rfl | exact hs.rowRd 8 rfl | exact hs.rowRd 9 rfl | exact hs.rowRd 10 rfl | exact hs.rowRd 11 rfl | exact hs.rowRd 12 rfl | exact hs.rowRd 13 rfl | exact Rd.st (by assumption) hs) (by first | exact hs.rowRd 0 rfl | exact hs.rowRd 1 rfl | exact hs.rowRd 2 rfl | exact hs.rowRd 3 rfl | exact hs.rowRd 4 rfl | exact hs.rowRd 5 rfl | exact hs.rowRd 6 rfl | exact hs.rowRd 7 rfl | exact hs.rowRd 8 rfl | exact hs.rowRd 9 rfl | exact hs.rowRd 10 rfl | exact hs.rowRd 11 rfl | exact hs.rowRd 12 rfl | exact hs.rowRd 13 rfl | exact Rd.st (by assumption) hs)) rfl rfl ?_
          rintro u N ⟨j2, hj2, hj3, rfl⟩
          refine S_val rfl rfl (Y_assign rfl) ?_
          refine S_nil ?_
          refine X_blk ?_
          refine X_seq ?_
          refine T_region ?_
          refine S_val rfl rfl (Y_move rfl) ?_
          refine S_val rfl rfl (Y_addN rfl rfl (nat_cast _) (nat_lit' _) (by omega)) ?_
          refine S_val rfl rfl (Y_assign rfl) ?_
          refine S_nil ?_
          refine X_loop ?_
          refine ⟨(t + 1, (j2, u), (jo, vo)), ⟨by dsimp only; omega, ⟨hj2, hj3⟩, by dsimp only; rw [ls]; exact ⟨ho1, ho2⟩⟩, by dsimp only; omega, by dsimp only; rw [← hcu]; exact (by repeat (first | exact Env.sub_nil _ | (apply Env.sub_cons; rfl))), by dsimp only; rw [ls]; exact Emb.idx [0, 3, 2] rfl rfl⟩
        · rw [hbit, if_pos rfl] at ls
          have hbi : ((c / 2 ^ t % 2 : Nat) : Int) = 1 := by rw [hbit]; rfl
          have m1 := fun v u z w h h' hz => r9mul_any (b ^ (e % 256 ^ (n - (i + 1)) + c % 2 ^ t * 256 ^ (n - (i + 1))) % M) (b ^ (256 ^ (n - (i + 1)) * 2 ^ t) % M) M jo jb k ho1 hb1 hM h0 (by omega) (by omega) (by omega) v u z w h h' hz
          rw [← ls] at m1
          clear ss ls hbit hA hT
          refine T_seq ?_
          refine T_seq ?_
          refine T_region ?_
          refine S_val rfl rfl (Y_move rfl) ?_
          refine S_val rfl rfl (Y_lss_t rfl rfl (by omega)) ?_
          refine S_nil ?_
          refine X_seq ?_
          refine T_cond_true rfl ?_
          refine T_skip ?_
          refine X_seq ?_
          refine T_seq ?_
          refine T_block ?_
          refine T_seq ?_
          refine T_seq ?_
          refine T_region ?_
          refine S_val rfl rfl (Y_move rfl) ?_
          refine S_val rfl rfl (Y_remN rfl rfl (nat_cast _) (nat_lit' _) (Nat.succ_ne_zero _)) ?_
          refine S_val rfl rfl (Y_eql_t rfl rfl (by assumption)) ?_
          refine S_nil ?_
          refine X_seq ?_
          refine T_cond_true rfl ?_
          refine T_region ?_
          refine S_val rfl rfl (Y_move rfl) ?_
          refine S_val rfl rfl (Y_move rfl) ?_
          refine S_val rfl rfl (Y_move rfl) ?_
          refine S_call _ rfl rfl (bod rfl) (fun w hs => m1 _ _ _ _ (by first | exact hs.rowRd 0 rfl | exact hs.rowRd 1 rfl | exact hs.rowRd 2 rfl | exact hs.rowRd 3 rfl | exact hs.rowRd 4 rfl | exact hs.rowRd 5 rfl | exact hs.rowRd 6 rfl | exact hs.rowRd 7 rfl | exact hs.rowRd 8 rfl | exact hs.rowRd 9 rfl | exact hs.rowRd 10 rfl | exact hs.rowRd 11 rfl | exact hs.rowRd 12 rfl | exact hs.rowRd 13 rfl | exact Rd.st (by assumption) hs) (by first | exact hs.rowRd 0 rfl | exact hs.rowRd 1 rfl | exact hs.rowRd 2 rfl | exact hs.rowRd 3 rfl | exact hs.rowRd 4 rfl | exact hs.rowRd 5 rfl | exact hs.rowRd 6 rfl | exact hs.rowRd 7 rfl | exact hs.rowRd 8 rfl | exact hs.rowRd 9 rfl | exact hs.rowRd 10 rfl | exact hs.rowRd 11 rfl | exact hs.rowRd 12 rfl | exact hs.rowRd 13 rfl | exact Rd.st (by assumption) hs) (hs.rowRd 0 rfl)) rfl rfl ?_
          rintro u1 N1 ⟨j1, hj1, hj4, rfl⟩
          refine S_val rfl rfl (Y_assign rfl) ?_
          refine S_nil ?_
          refine X_seq ?_
          refine T_seq ?_
          refine T_region ?_
          refine S_val rfl rfl (Y_move rfl) ?_
          refine S_val rfl rfl (Y_quoN rfl rfl (nat_cast _) (nat_lit' _) (Nat.succ_ne_zero _) (by first | with_reducible exact xi64 (by omega) | with_reducible exact x64 (by omega) | with_reducible exact x8 (by omega) | with_reducible exact x32 (by omega))) ?_
          refine S_val rfl rfl (Y_assign rfl) ?_
          refine S_nil ?_
          refine X_seq ?_
          refine T_region ?_
          refine S_val rfl rfl (Y_move rfl) ?_
          refine S_val rfl rfl (Y_move rfl) ?_
          refine S_val rfl rfl (Y_move rfl) ?_
          refine S_call _ rfl rfl (bod rfl) (fun w hs => m2 _ _ _ (by first | exact hs.rowRd 0 rfl | exact hs.rowRd 1 rfl | exact hs.rowRd 2 rfl | exact hs.rowRd 3 rfl | exact hs.rowRd 4 rfl | exact hs.rowRd 5 rfl | exact hs.rowRd 6 rfl | exact hs.rowRd 7 rfl | exact hs.rowRd 8 rfl | exact hs.rowRd 9 rfl | exact hs.rowRd 10 rfl | exact hs.rowRd 11 rfl | exact hs.rowRd 12 rfl | exact hs.rowRd 13 rfl | exact Rd.st (by assumption) hs) (by first | exact hs.rowRd 0 rfl | exact hs.rowRd 1 rfl | exact hs.rowRd 2 rfl | exact hs.rowRd 3 rfl | exact hs.rowRd 4 rfl | exact hs.rowRd 5 rfl | exact hs.rowRd 6 rfl | exact hs.rowRd 7 rfl | exact hs.rowRd 8 rfl | exact hs.rowRd 9 rfl | exact hs.rowRd 10 rfl | exact hs.rowRd 11 rfl | exact hs.rowRd 12 rfl | exact hs.rowRd 13 rfl | exact Rd.st (by assumption) hs)) rfl rfl ?_
          rintro u N ⟨j2, hj2, hj3, rfl⟩
          refine S_val rfl rfl (Y_assign rfl) ?_
          refine S_nil ?_
          refine X_blk ?_
          refine X_seq ?_
          refine T_region ?_
          refine S_val rfl rfl (Y_move rfl) ?_
          refine S_val rfl rfl (Y_addN rfl rfl (nat_cast _) (nat_lit' _) (by omega)) ?_
          refine S_val rfl rfl (Y_assign rfl) ?_
          refine S_nil ?_
          refine X_loop ?_
          refine ⟨(t + 1, (j2, u), (j1, u1)), ⟨by dsimp only; omega, ⟨hj2, hj3⟩, ⟨hj1, hj4⟩⟩, by dsimp only; omega, by dsimp only; rw [← hcu]; exact (by repeat (first | exact Env.sub_nil _ | (apply Env.sub_cons; rfl))), Emb.idx [0, 4, 3] rfl rfl⟩
      · obtain rfl : t = 8 := by omega
        rw [← hT] at hb1 ⊢
        rw [← hA] at ho1 ⊢
        refine T_seq ?_
        refine T_seq ?_
        refine T_region ?_
        refine S_val rfl rfl (Y_move rfl) ?_
        refine S_val rfl rfl (Y_lss_f rfl rfl (by decide)) ?_
        refine S_nil ?_
        refine X_seq ?_
        refine T_cond_false rfl ?_
        refine T_exit ?_
        refine X_seq_exit ?_
        refine X_loop_exit ?_
        refine X_blk_hit rfl ?_
        refine X_blk ?_
        refine X_seq ?_
        refine T_region ?_
        refine S_val rfl rfl (Y_move rfl) ?_
        refine S_val rfl rfl (Y_sub rfl rfl (wi64 (by omega) (by omega))) ?_
        refine S_val rfl rfl (Y_assign rfl) ?_
        refine S_nil ?_
        refine X_loop ?_
        exact ⟨(i, (jb, vb), (jo, vo)), ⟨by dsimp only; omega, ⟨hb1, hb2⟩, ⟨ho1, ho2⟩⟩, by dsimp only; omega, (by repeat (first | exact Env.sub_nil _ | (apply Env.sub_cons; rfl))), Emb.refl _⟩
end Go.Proofs.YtchoncjikdfbgaaDoor
