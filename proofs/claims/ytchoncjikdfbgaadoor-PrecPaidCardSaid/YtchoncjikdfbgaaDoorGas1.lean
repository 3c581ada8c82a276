import Derived.Test.YtchoncjikdfbgaaDoorWord4
import Derived.Test.YtchoncjikdfbgaaDoorRef9
import Derived.Test.YtchoncjikdfbgaaDoorWide3
/- Package modexp: the parts of an input. -/
namespace Go.Proofs.YtchoncjikdfbgaaDoor
open Go.RowKit
set_option maxRecDepth 20000
set_option maxHeartbeats 4000000

/-- The first p bytes of n, with noughts behind, as a number. -/
def qN (n x p : Nat) : Nat := x * 256 ^ p / 256 ^ n
theorem qN_le {n x p : Nat} (h : p ≤ n) : qN n x p = x / 256 ^ (n - p) := by
  unfold qN
  conv => lhs; rw [show n = (n - p) + p by omega]
  rw [Nat.pow_add, Nat.mul_div_mul_right _ _ (Nat.pow_pos (by omega))]
theorem qN_ge {n x p : Nat} (h : n ≤ p) : qN n x p = x * 256 ^ (p - n) := by
  unfold qN
  conv => lhs; rw [show p = (p - n) + n by omega]
  rw [Nat.pow_add, ← Nat.mul_assoc, Nat.mul_div_cancel _ (Nat.pow_pos (by omega))]
theorem qN_succ (n x p : Nat) : qN n x (p + 1) / 256 = qN n x p := by
  unfold qN
  rw [Nat.div_div_eq_div_mul, Nat.pow_succ, ← Nat.mul_assoc, Nat.mul_div_mul_right _ _ (by omega)]
theorem qN_byte {n x p : Nat} (h : p < n) : qN n x (p + 1) % 256 = x / 256 ^ (n - 1 - p) % 256 := by
  rw [qN_le (by omega), show n - (p + 1) = n - 1 - p by omega]
theorem qN_none {n x p : Nat} (h : n ≤ p) : qN n x (p + 1) % 256 = 0 := by
  rw [qN_ge (by omega), show p + 1 - n = (p - n) + 1 by omega, Nat.pow_succ, ← Nat.mul_assoc, Nat.mul_mod_left]
theorem qN_far {n x p k : Nat} (h : n + k ≤ p) : qN n x p % 256 ^ k = 0 := by
  rw [qN_ge (by omega), show p - n = (p - n - k) + k by omega, Nat.pow_add, ← Nat.mul_assoc, Nat.mul_mod_left]
theorem bel_next {n x p k c : Nat} (h : qN n x (p + 1) % 256 = c) : bel k (qN n x p) ++ [(c : Int)] = bel (k + 1) (qN n x (p + 1)) := by
  rw [bel_snoc _ _ _ (by rw [← h]; exact Nat.mod_lt _ (by omega)), ← qN_succ, ← h]
  congr 1
  omega
theorem part_row (n x at_ k : Nat) (_hx : x < 256 ^ n) (h : at_ < n) : (bel (n - at_) x).take (min (n - at_) k) ++ (List.replicate k (0 : Int)).drop (min (n - at_) k) = bel k (qN n x (at_ + k)) := by
  by_cases h2 : at_ + k ≤ n
  · rw [show min (n - at_) k = k by omega, bel_take _ _ _ (by omega), List.drop_of_length_le (by simp), List.append_nil, qN_le h2, show n - at_ - k = n - (at_ + k) by omega]
  · rw [show min (n - at_) k = n - at_ by omega, List.take_of_length_le (by rw [bel_length]; omega), List.drop_replicate, ← bel_zero, bel_append _ _ _ _ (Nat.pow_pos (by omega)), qN_ge (by omega), Nat.add_zero, show at_ + k - n = k - (n - at_) by omega]
    congr 1
    omega
theorem mpart_any (n x at_ k : Nat) (hx : x < 256 ^ n) (hn : n ≤ 1000000) (_ha : at_ < 18446744073709551616) (hk : k ≤ 1000) (v : Value) (w : World) (hr : Rd w v .u8 (bel n x)) :
    Fn Tryd.prog 27 #[v, .int .u64 at_, .int .u64 k] w fun u N => N = [row .u8 (bel k (qN n x (at_ + k))) u] := by
  by_cases h : at_ < n
  · have hp := part_row n x at_ k hx h
    have hd : Rd w (vDrop at_ v) .u8 (bel (n - at_) x) := by
      have := hr.dropV (j := at_) (by rw [bel_length]; omega)
      rwa [bel_drop _ _ _ (by omega)] at this
    refine Fn_of (args := [v, .int .u64 at_, .int .u64 k]) Tryd.func27 rfl Tryd.ntmps27 Tryd.results27 (by simp) ?_
    refine T_seq ?_
    refine T_region ?_
    refine S_val rfl rfl (Y_assign rfl) ?_
    refine S_nil ?_
    refine X_seq ?_
    refine T_seq ?_
    refine T_region ?_
    refine S_val rfl rfl (Y_move rfl) ?_
    refine S_makeR (und rfl) (siz rfl) (byt rfl) (zer rfl) rfl rfl (nat_cast _) (by omega) rfl rfl rfl fun _ => ?_
    refine S_val rfl rfl (Y_assign rfl) ?_
    refine S_nil ?_
    refine X_seq ?_
    refine T_seq ?_
    refine T_seq ?_
    refine T_region ?_
    refine S_val rfl rfl (Y_move rfl) ?_
    refine S_val rfl rfl (Y_move rfl) ?_
    refine S_val rfl rfl (Y_lenV rfl (und rfl) rfl (fun _ hs => Rd.st (by assumption) hs) (bel_length _ _)) ?_
    refine S_val rfl rfl (Y_conv (und rfl) (und rfl) rfl (wu64 (by omega) (by omega))) ?_
    refine S_val rfl rfl (Y_lss_t rfl rfl (by omega)) ?_
    refine S_nil ?_
    refine X_seq ?_
    refine T_cond_true rfl ?_
    refine T_region ?_
    refine S_val rfl rfl (Y_move rfl) ?_
    refine S_val rfl rfl (Y_move rfl) ?_
    refine S_val rfl rfl (Y_move rfl) ?_
    refine S_val rfl rfl (Y_sliceLoV (und rfl) (siz rfl) rfl rfl (fun _ hs => Rd.st (by assumption) hs) (nat_cast _) (by simp; omega)) ?_
    refine S_copyR 0 (m := bel (n - at_) x) (n := min (n - at_) k) rfl (und rfl) (siz rfl) rfl rfl rfl (fun w hs => (by first | exact hs.rowRd 0 rfl | exact hs.rowRd 1 rfl | exact hs.rowRd 2 rfl | exact hs.rowRd 3 rfl | exact hs.rowRd 4 rfl | exact hs.rowRd 5 rfl | exact hs.rowRd 6 rfl | exact hs.rowRd 7 rfl | exact hs.rowRd 8 rfl | exact hs.rowRd 9 rfl | exact hs.rowRd 10 rfl | exact hs.rowRd 11 rfl | exact hs.rowRd 12 rfl | exact hs.rowRd 13 rfl | exact Rd.st (by assumption) hs)) (by rw [bel_length, List.length_replicate]) rfl rfl fun _ => ?_
    rw [hp]
    refine S_nil ?_
    refine X_seq ?_
    refine T_seq ?_
    refine T_region ?_
    refine S_val rfl rfl (Y_move rfl) ?_
    refine S_val rfl rfl (Y_assign rfl) ?_
    refine S_nil ?_
    refine X_seq ?_
    refine T_ret ?_
    ((first | refine X_fin_ret ?_ | refine X_fin ?_); exact ⟨[_], [_], .cons (.tmp rfl) .nil, Emb.one 0 rfl, rfl⟩)
  · have e : List.replicate k (0 : Int) = bel k (qN n x (at_ + k)) := by
      rw [← bel_mod, qN_far (by omega), bel_zero]
    refine Fn_of (args := [v, .int .u64 at_, .int .u64 k]) Tryd.func27 rfl Tryd.ntmps27 Tryd.results27 (by simp) ?_
    refine T_seq ?_
    refine T_region ?_
    refine S_val rfl rfl (Y_assign rfl) ?_
    refine S_nil ?_
    refine X_seq ?_
    refine T_seq ?_
    refine T_region ?_
    refine S_val rfl rfl (Y_move rfl) ?_
    refine S_makeR (und rfl) (siz rfl) (byt rfl) (zer rfl) rfl rfl (nat_cast _) (by omega) rfl rfl rfl fun _ => ?_
    refine S_val rfl rfl (Y_assign rfl) ?_
    refine S_nil ?_
    refine X_seq ?_
    refine T_seq ?_
    refine T_seq ?_
    refine T_region ?_
    refine S_val rfl rfl (Y_move rfl) ?_
    refine S_val rfl rfl (Y_move rfl) ?_
    refine S_val rfl rfl (Y_lenV rfl (und rfl) rfl (fun _ hs => Rd.st (by assumption) hs) (bel_length _ _)) ?_
    refine S_val rfl rfl (Y_conv (und rfl) (und rfl) rfl (wu64 (by omega) (by omega))) ?_
    refine S_val rfl rfl (Y_lss_f rfl rfl (by omega)) ?_
    refine S_nil ?_
    refine X_seq ?_
    refine T_cond_false rfl ?_
    refine T_skip ?_
    refine X_seq ?_
    refine T_seq ?_
    refine T_region ?_
    refine S_val rfl rfl (Y_move rfl) ?_
    refine S_val rfl rfl (Y_assign rfl) ?_
    refine S_nil ?_
    refine X_seq ?_
    refine T_ret ?_
    ((first | refine X_fin_ret ?_ | refine X_fin ?_); exact ⟨[_], [_], .cons (.tmp rfl) .nil, Emb.one 0 rfl, by rw [e]; rfl⟩)
theorem rpart_any (n x at_ k : Nat) (_hx : x < 256 ^ n) (hn : n ≤ 1000000) (ha : at_ < 1000000000000000000) (hk : k ≤ 1000) (v : Value) (w : World) (hr : Rd w v .u8 (bel n x)) :
    Fn Tryd.prog 22 #[v, .int .i64 at_, .int .i64 k] w fun u N => N = [row .u8 (bel k (qN n x (at_ + k))) u] := by
  refine Fn_of (args := [v, .int .i64 at_, .int .i64 k]) Tryd.func22 rfl Tryd.ntmps22 Tryd.results22 (by simp) ?_
  refine T_seq ?_
  refine T_region ?_
  refine S_val rfl rfl (Y_assign rfl) ?_
  refine S_nil ?_
  refine X_seq ?_
  refine T_seq ?_
  refine T_region ?_
  refine S_sliceR (und rfl) (siz rfl) (zer rfl) rfl rfl rfl rfl fun _ => ?_
  refine S_val rfl rfl (Y_assign rfl) ?_
  refine S_nil ?_
  refine X_seq ?_
  refine T_seq ?_
  refine T_seq ?_
  refine T_region ?_
  refine S_val rfl rfl (Y_assign rfl) ?_
  refine S_nil ?_
  refine X_seq ?_
  refine T_block ?_
  rename_i v0
  refine T_loopE (α := Nat × Value) (fun a => a.1 ≤ k)
    (fun a => [(0, v), (1, .int .i64 at_), (2, .int .i64 k), (7, a.2), (8, .int .i64 a.1)])
    (fun a => [row .u8 (bel a.1 (qN n x (at_ + a.1))) a.2])
    (fun a => k - a.1) (0, v0) (Nat.zero_le _) (by repeat (first | exact Env.sub_nil _ | (apply Env.sub_cons; rfl))) (Emb.refl _) ?_
  rintro ⟨i, u⟩ hi
  dsimp only at hi ⊢
  by_cases h : i < k
  · by_cases h2 : at_ + i < n
    · have he := bel_next (k := i) (qN_byte (x := x) h2)
      rw [show at_ + i + 1 = at_ + (i + 1) by omega] at he
      have hc := dig256_lt x (n - 1 - (at_ + i))
      refine T_seq ?_
      refine T_seq ?_
      refine T_region ?_
      refine S_val rfl rfl (Y_move rfl) ?_
      refine S_val rfl rfl (Y_move rfl) ?_
      refine S_val rfl rfl (Y_lss_t rfl rfl (by omega)) ?_
      refine S_nil ?_
      refine X_seq ?_
      refine T_cond_true rfl ?_
      refine T_skip ?_
      refine X_seq ?_
      refine T_seq ?_
      refine T_block ?_
      refine T_seq ?_
      refine T_region ?_
      refine S_val rfl rfl (Y_move rfl) ?_
      refine S_val rfl rfl (Y_move rfl) ?_
      refine S_val rfl rfl (Y_addN rfl rfl (nat_cast _) (nat_cast _) (by omega)) ?_
      refine S_val rfl rfl (Y_move rfl) ?_
      refine S_val rfl rfl (Y_lenV rfl (und rfl) rfl (fun _ hs => Rd.st (by assumption) hs) (bel_length _ _)) ?_
      refine S_val rfl rfl (Y_lss_t rfl rfl (by omega)) ?_
      refine S_nil ?_
      refine X_seq ?_
      refine T_cond_true rfl ?_
      refine T_region ?_
      refine S_val rfl rfl (Y_move rfl) ?_
      refine S_val rfl rfl (Y_move rfl) ?_
      refine S_val rfl rfl (Y_move rfl) ?_
      refine S_val rfl rfl (Y_move rfl) ?_
      refine S_val rfl rfl (Y_addN rfl rfl (nat_cast _) (nat_cast _) (by omega)) ?_
      refine S_val rfl rfl (Y_ixV (und rfl) (siz rfl) rfl rfl (fun _ hs => Rd.st (by assumption) hs) (nat_cast _) (by simp; omega)) ?_
      refine S_val rfl rfl (Y_loadV (und rfl) rfl rfl (fun _ hs => Rd.st (by assumption) hs) (bel_get (by assumption))) ?_
      refine S_sliceR (und rfl) (siz rfl) (zer rfl) rfl rfl rfl rfl fun _ => ?_
      refine S_append 0 rfl (und rfl) (und rfl) (siz rfl) (byt rfl) (zer rfl) rfl rfl rfl (fun _ hs => hs.rowRd 1 rfl) (by simp; omega) rfl rfl rfl fun _ => ?_
      refine S_val rfl rfl (Y_assign rfl) ?_
      refine S_nil ?_
      refine X_blk ?_
      refine X_seq ?_
      refine T_region ?_
      refine S_val rfl rfl (Y_move rfl) ?_
      refine S_val rfl rfl (Y_addN rfl rfl (nat_cast _) (nat_lit' _) (by omega)) ?_
      refine S_val rfl rfl (Y_assign rfl) ?_
      refine S_nil ?_
      refine X_loop ?_
      exact ⟨(i + 1, _), by dsimp only; omega, by dsimp only; omega, (by repeat (first | exact Env.sub_nil _ | (apply Env.sub_cons; rfl))), by dsimp only; rw [← he]; exact Emb.one 0 rfl⟩
    · have he := bel_next (k := i) (qN_none (n := n) (x := x) (p := at_ + i) (by omega))
      rw [show at_ + i + 1 = at_ + (i + 1) by omega] at he
      refine T_seq ?_
      refine T_seq ?_
      refine T_region ?_
      refine S_val rfl rfl (Y_move rfl) ?_
      refine S_val rfl rfl (Y_move rfl) ?_
      refine S_val rfl rfl (Y_lss_t rfl rfl (by omega)) ?_
      refine S_nil ?_
      refine X_seq ?_
      refine T_cond_true rfl ?_
      refine T_skip ?_
      refine X_seq ?_
      refine T_seq ?_
      refine T_block ?_
      refine T_seq ?_
      refine T_region ?_
      refine S_val rfl rfl (Y_move rfl) ?_
      refine S_val rfl rfl (Y_move rfl) ?_
      refine S_val rfl rfl (Y_addN rfl rfl (nat_cast _) (nat_cast _) (by omega)) ?_
      refine S_val rfl rfl (Y_move rfl) ?_
      refine S_val rfl rfl (Y_lenV rfl (und rfl) rfl (fun _ hs => Rd.st (by assumption) hs) (bel_length _ _)) ?_
      refine S_val rfl rfl (Y_lss_f rfl rfl (by omega)) ?_
      refine S_nil ?_
      refine X_seq ?_
      refine T_cond_false rfl ?_
      refine T_region ?_
      refine S_val rfl rfl (Y_move rfl) ?_
      refine S_sliceR (und rfl) (siz rfl) (zer rfl) rfl rfl rfl rfl fun _ => ?_
      refine S_append 0 rfl (und rfl) (und rfl) (siz rfl) (byt rfl) (zer rfl) rfl rfl rfl (fun _ hs => hs.rowRd 1 rfl) (by simp; omega) rfl rfl rfl fun _ => ?_
      refine S_val rfl rfl (Y_assign rfl) ?_
      refine S_nil ?_
      refine X_blk ?_
      refine X_seq ?_
      refine T_region ?_
      refine S_val rfl rfl (Y_move rfl) ?_
      refine S_val rfl rfl (Y_addN rfl rfl (nat_cast _) (nat_lit' _) (by omega)) ?_
      refine S_val rfl rfl (Y_assign rfl) ?_
      refine S_nil ?_
      refine X_loop ?_
      exact ⟨(i + 1, _), by dsimp only; omega, by dsimp only; omega, (by repeat (first | exact Env.sub_nil _ | (apply Env.sub_cons; rfl))), by dsimp only; rw [← he]; exact Emb.one 0 rfl⟩
  · obtain rfl : i = k := by omega
    refine T_seq ?_
    refine T_seq ?_
    refine T_region ?_
    refine S_val rfl rfl (Y_move rfl) ?_
    refine S_val rfl rfl (Y_move rfl) ?_
    refine S_val rfl rfl (Y_lss_f rfl rfl (by omega)) ?_
    refine S_nil ?_
    refine X_seq ?_
    refine T_cond_false rfl ?_
    refine T_exit ?_
    refine X_seq_exit ?_
    refine X_loop_exit ?_
    refine X_blk_hit rfl ?_
    refine X_seq ?_
    refine T_seq ?_
    refine T_region ?_
    refine S_val rfl rfl (Y_move rfl) ?_
    refine S_val rfl rfl (Y_assign rfl) ?_
    refine S_nil ?_
    refine X_seq ?_
    refine T_ret ?_
    ((first | refine X_fin_ret ?_ | refine X_fin ?_); exact ⟨[_], [_], .cons (.tmp rfl) .nil, Emb.one 0 rfl, rfl⟩)
/-- One of the three lengths. -/
def lenN (n x k : Nat) : Nat := qN n x (32 * k + 32) % 2 ^ 256
theorem lenN_lt (n x k : Nat) : lenN n x k < 2 ^ 256 := Nat.mod_lt _ (by omega)
theorem lenN_bel (n x k : Nat) : bel 32 (qN n x (32 * k + 32)) = bel 32 (lenN n x k) := by
  unfold lenN
  rw [show (2 : Nat) ^ 256 = 256 ^ 32 by decide, bel_mod]
theorem rlength_any (n x k : Nat) (hx : x < 256 ^ n) (hn : n ≤ 1000000) (hk : k ≤ 2) (v : Value) (w : World) (hr : Rd w v .u8 (bel n x)) :
    Fn Tryd.prog 12 #[v, .int .i64 k] w fun u N => u = .tuple #[.int .u64 ((if lenN n x k < 18446744073709551616 then lenN n x k else 0 : Nat) : Int), .bool (decide (lenN n x k < 18446744073709551616))] ∧ N = [] := by
  have pt := fun w h => rpart_any n x (32 * k) 32 hx hn (by omega) (by omega) v w h
  simp only [lenN_bel] at pt
  have hl := lenN_lt n x k
  generalize lenN n x k = l at *
  by_cases hs : l < 18446744073709551616
  · rw [if_pos hs, decide_eq_true hs]
    refine Fn_of (args := [v, .int .i64 k]) Tryd.func12 rfl Tryd.ntmps12 Tryd.results12 (by simp) ?_
    refine T_seq ?_
    refine T_region ?_
    refine S_val rfl rfl (Y_assign rfl) ?_
    refine S_val rfl rfl (Y_assign rfl) ?_
    refine S_nil ?_
    refine X_seq ?_
    refine T_seq ?_
    refine T_region ?_
    refine S_val rfl rfl (Y_move rfl) ?_
    refine S_val rfl rfl (Y_move rfl) ?_
    refine S_val rfl rfl (Y_mulN rfl rfl (nat_lit' _) (nat_cast _) (by omega)) ?_
    refine S_callR _ rfl rfl (bod rfl) (fun w hs => pt _ (by first | exact hs.rowRd 0 rfl | exact hs.rowRd 1 rfl | exact hs.rowRd 2 rfl | exact hs.rowRd 3 rfl | exact hs.rowRd 4 rfl | exact hs.rowRd 5 rfl | exact hs.rowRd 6 rfl | exact hs.rowRd 7 rfl | exact hs.rowRd 8 rfl | exact hs.rowRd 9 rfl | exact hs.rowRd 10 rfl | exact hs.rowRd 11 rfl | exact hs.rowRd 12 rfl | exact hs.rowRd 13 rfl | exact Rd.st (by assumption) hs)) rfl rfl fun _ => ?_
    refine S_val rfl rfl (Y_assign rfl) ?_
    refine S_nil ?_
    refine X_seq ?_
    refine T_seq ?_
    refine T_region ?_
    refine S_val rfl rfl (Y_assign rfl) ?_
    refine S_nil ?_
    refine X_seq ?_
    refine T_seq ?_
    refine T_seq ?_
    refine T_region ?_
    refine S_val rfl rfl (Y_assign rfl) ?_
    refine S_nil ?_
    refine X_seq ?_
    refine T_block ?_
    rename_i vb
    refine T_loop (α := Nat) (fun i => i ≤ 32)
      (fun i => [(6, vb), (7, .int .u64 ((l / 256 ^ (32 - i) : Nat) : Int)), (8, .int .i64 i)])
      (fun i => [row .u8 (bel 32 l) vb])
      (fun i => 32 - i) 0 (by omega) (by rw [Nat.div_eq_of_lt (show l < 256 ^ (32 - 0) from hl)]; exact (by repeat (first | exact Env.sub_nil _ | (apply Env.sub_cons; rfl)))) [] rfl ?_
    intro i hi
    refine T_sh 0 rfl fun hsh => ?_
    rw [bel_length] at hsh
    by_cases h : i < 32
    · have hd := dig256_lt l (32 - 1 - i)
      have hq : l / 256 ^ (32 - (i + 1)) = l / 256 ^ (32 - i) * 256 + l / 256 ^ (32 - 1 - i) % 256 := by
        rw [show 32 - i = (32 - (i + 1)) + 1 by omega, Nat.pow_succ, ← Nat.div_div_eq_div_mul, show 32 - 1 - i = 32 - (i + 1) by omega]
        omega
      have hle : l / 256 ^ (32 - (i + 1)) ≤ l := Nat.div_le_self _ _
      have hlt : l / 256 ^ (32 - i) * 256 + l / 256 ^ (32 - 1 - i) % 256 < 18446744073709551616 := by omega
      have hm : l / 256 ^ (32 - i) * 256 < 18446744073709551616 := by omega
      clear hle
      by_cases h2 : i < 24
      · have h0 : l / 256 ^ (32 - 1 - i) % 256 = 0 := by
          rw [Nat.div_eq_of_lt (Nat.lt_of_lt_of_le hs (show 256 ^ 8 ≤ 256 ^ (32 - 1 - i) from Nat.pow_le_pow_right (by omega) (by omega)))]
        have h0' : ¬ ((l / 256 ^ (32 - 1 - i) % 256 : Nat) : Int) ≠ 0 := by omega
        refine T_seq ?_
        refine T_seq ?_
        refine T_region ?_
        refine S_val rfl rfl (Y_move rfl) ?_
        refine S_val rfl rfl (Y_lss_t rfl rfl (by omega)) ?_
        refine S_nil ?_
        refine X_seq ?_
        refine T_cond_true rfl ?_
        refine T_skip ?_
        refine X_seq ?_
        refine T_seq ?_
        refine T_block ?_
        refine T_seq ?_
        refine T_seq ?_
        refine T_region ?_
        refine S_val rfl rfl (Y_move rfl) ?_
        refine S_val rfl rfl (Y_lss_t rfl rfl (by omega)) ?_
        refine S_val rfl rfl (Y_move rfl) ?_
        refine S_val rfl rfl (Y_move rfl) ?_
        refine S_val rfl rfl (Y_move rfl) ?_
        refine S_val rfl rfl (Y_ixV (und rfl) (siz rfl) rfl rfl (fun _ hs => hs.rowRd 0 rfl) (nat_cast _) (by assumption)) ?_
        refine S_val rfl rfl (Y_loadV (und rfl) rfl rfl (fun _ hs => hs.rowRd 0 rfl) (bel_get (by assumption))) ?_
        refine S_val rfl rfl (Y_neq_f rfl rfl (by assumption)) ?_
        refine S_val rfl rfl (Y_pick_t rfl rfl) ?_
        refine S_nil ?_
        refine X_seq ?_
        refine T_cond_false rfl ?_
        refine T_skip ?_
        refine X_seq ?_
        refine T_region ?_
        refine S_val rfl rfl (Y_move rfl) ?_
        refine S_val rfl rfl (Y_mulU rfl rfl (nat_cast _) (nat_lit' _) rfl (by simp only [IntKind.bits]; assumption)) ?_
        refine S_val rfl rfl (Y_move rfl) ?_
        refine S_val rfl rfl (Y_move rfl) ?_
        refine S_val rfl rfl (Y_ixV (und rfl) (siz rfl) rfl rfl (fun _ hs => hs.rowRd 0 rfl) (nat_cast _) (by assumption)) ?_
        refine S_val rfl rfl (Y_loadV (und rfl) rfl rfl (fun _ hs => hs.rowRd 0 rfl) (bel_get (by assumption))) ?_
        refine S_val rfl rfl (Y_conv (und rfl) (und rfl) rfl (wu64 (by omega) (by omega))) ?_
        refine S_val rfl rfl (Y_addU rfl rfl (nat_cast _) (nat_cast _) rfl (by simp only [IntKind.bits]; assumption)) ?_
        refine S_val rfl rfl (Y_assign rfl) ?_
        refine S_nil ?_
        refine X_blk ?_
        refine X_seq ?_
        refine T_region ?_
        refine S_val rfl rfl (Y_move rfl) ?_
        refine S_val rfl rfl (Y_addN rfl rfl (nat_cast _) (nat_lit' _) (by omega)) ?_
        refine S_val rfl rfl (Y_assign rfl) ?_
        refine S_nil ?_
        refine X_loop ?_
        exact ⟨i + 1, by omega, by omega, by rw [hq]; exact (by repeat (first | exact Env.sub_nil _ | (apply Env.sub_cons; rfl))), [], rfl⟩
      · refine T_seq ?_
        refine T_seq ?_
        refine T_region ?_
        refine S_val rfl rfl (Y_move rfl) ?_
        refine S_val rfl rfl (Y_lss_t rfl rfl (by omega)) ?_
        refine S_nil ?_
        refine X_seq ?_
        refine T_cond_true rfl ?_
        refine T_skip ?_
        refine X_seq ?_
        refine T_seq ?_
        refine T_block ?_
        refine T_seq ?_
        refine T_seq ?_
        refine T_region ?_
        refine S_val rfl rfl (Y_move rfl) ?_
        refine S_val rfl rfl (Y_lss_f rfl rfl (by omega)) ?_
        refine S_val rfl rfl (Y_move rfl) ?_
        refine S_skip rfl rfl ?_
        refine S_skip rfl rfl ?_
        refine S_skip rfl rfl ?_
        refine S_skip rfl rfl ?_
        refine S_skip rfl rfl ?_
        refine S_val rfl rfl (Y_pick_f rfl rfl) ?_
        refine S_nil ?_
        refine X_seq ?_
        refine T_cond_false rfl ?_
        refine T_skip ?_
        refine X_seq ?_
        refine T_region ?_
        refine S_val rfl rfl (Y_move rfl) ?_
        refine S_val rfl rfl (Y_mulU rfl rfl (nat_cast _) (nat_lit' _) rfl (by simp only [IntKind.bits]; assumption)) ?_
        refine S_val rfl rfl (Y_move rfl) ?_
        refine S_val rfl rfl (Y_move rfl) ?_
        refine S_val rfl rfl (Y_ixV (und rfl) (siz rfl) rfl rfl (fun _ hs => hs.rowRd 0 rfl) (nat_cast _) (by assumption)) ?_
        refine S_val rfl rfl (Y_loadV (und rfl) rfl rfl (fun _ hs => hs.rowRd 0 rfl) (bel_get (by assumption))) ?_
        refine S_val rfl rfl (Y_conv (und rfl) (und rfl) rfl (wu64 (by omega) (by omega))) ?_
        refine S_val rfl rfl (Y_addU rfl rfl (nat_cast _) (nat_cast _) rfl (by simp only [IntKind.bits]; assumption)) ?_
        refine S_val rfl rfl (Y_assign rfl) ?_
        refine S_nil ?_
        refine X_blk ?_
        refine X_seq ?_
        refine T_region ?_
        refine S_val rfl rfl (Y_move rfl) ?_
        refine S_val rfl rfl (Y_addN rfl rfl (nat_cast _) (nat_lit' _) (by omega)) ?_
        refine S_val rfl rfl (Y_assign rfl) ?_
        refine S_nil ?_
        refine X_loop ?_
        exact ⟨i + 1, by omega, by omega, by rw [hq]; exact (by repeat (first | exact Env.sub_nil _ | (apply Env.sub_cons; rfl))), [], rfl⟩
    · obtain rfl : i = 32 := by omega
      rw [Nat.sub_self, Nat.pow_zero, Nat.div_one]
      refine T_seq ?_
      refine T_seq ?_
      refine T_region ?_
      refine S_val rfl rfl (Y_move rfl) ?_
      refine S_val rfl rfl (Y_lss_f rfl rfl (by decide)) ?_
      refine S_nil ?_
      refine X_seq ?_
      refine T_cond_false rfl ?_
      refine T_exit ?_
      refine X_seq_exit ?_
      refine X_loop_exit ?_
      refine X_blk_hit rfl ?_
      refine X_seq ?_
      refine T_seq ?_
      refine T_region ?_
      refine S_val rfl rfl (Y_move rfl) ?_
      refine S_val rfl rfl (Y_assign rfl) ?_
      refine S_val rfl rfl (Y_assign rfl) ?_
      refine S_nil ?_
      refine X_seq ?_
      refine T_ret ?_
      ((first | refine X_fin_ret ?_ | refine X_fin ?_); exact ⟨[_, _], [], .cons (.tmp rfl) (.cons (.tmp rfl) .nil), Emb.nil _, rfl, rfl⟩)
  · rw [if_neg hs, decide_eq_false hs]
    refine Fn_of (args := [v, .int .i64 k]) Tryd.func12 rfl Tryd.ntmps12 Tryd.results12 (by simp) ?_
    refine T_seq ?_
    refine T_region ?_
    refine S_val rfl rfl (Y_assign rfl) ?_
    refine S_val rfl rfl (Y_assign rfl) ?_
    refine S_nil ?_
    refine X_seq ?_
    refine T_seq ?_
    refine T_region ?_
    refine S_val rfl rfl (Y_move rfl) ?_
    refine S_val rfl rfl (Y_move rfl) ?_
    refine S_val rfl rfl (Y_mulN rfl rfl (nat_lit' _) (nat_cast _) (by omega)) ?_
    refine S_callR _ rfl rfl (bod rfl) (fun w hs => pt _ (by first | exact hs.rowRd 0 rfl | exact hs.rowRd 1 rfl | exact hs.rowRd 2 rfl | exact hs.rowRd 3 rfl | exact hs.rowRd 4 rfl | exact hs.rowRd 5 rfl | exact hs.rowRd 6 rfl | exact hs.rowRd 7 rfl | exact hs.rowRd 8 rfl | exact hs.rowRd 9 rfl | exact hs.rowRd 10 rfl | exact hs.rowRd 11 rfl | exact hs.rowRd 12 rfl | exact hs.rowRd 13 rfl | exact Rd.st (by assumption) hs)) rfl rfl fun _ => ?_
    refine S_val rfl rfl (Y_assign rfl) ?_
    refine S_nil ?_
    refine X_seq ?_
    refine T_seq ?_
    refine T_region ?_
    refine S_val rfl rfl (Y_assign rfl) ?_
    refine S_nil ?_
    refine X_seq ?_
    refine T_seq ?_
    refine T_seq ?_
    refine T_region ?_
    refine S_val rfl rfl (Y_assign rfl) ?_
    refine S_nil ?_
    refine X_seq ?_
    refine T_block ?_
    rename_i vb
    refine T_loop (α := Nat) (fun i => i ≤ 24 ∧ l / 256 ^ (32 - i) = 0)
      (fun i => [(6, vb), (7, .int .u64 0), (8, .int .i64 i)])
      (fun i => [row .u8 (bel 32 l) vb])
      (fun i => 32 - i) 0 ⟨by omega, Nat.div_eq_of_lt hl⟩ (by repeat (first | exact Env.sub_nil _ | (apply Env.sub_cons; rfl))) [] rfl ?_
    rintro i ⟨hi, hi2⟩
    refine T_sh 0 rfl fun hsh => ?_
    rw [bel_length] at hsh
    have h : i < 24 := by
      rcases Nat.lt_or_ge i 24 with h | h
      · exact h
      · obtain rfl : i = 24 := by omega
        omega
    have hd := dig256_lt l (32 - 1 - i)
    have hq : l / 256 ^ (32 - (i + 1)) = l / 256 ^ (32 - i) * 256 + l / 256 ^ (32 - 1 - i) % 256 := by
      rw [show 32 - i = (32 - (i + 1)) + 1 by omega, Nat.pow_succ, ← Nat.div_div_eq_div_mul, show 32 - 1 - i = 32 - (i + 1) by omega]
      omega
    by_cases h0 : l / 256 ^ (32 - 1 - i) % 256 = 0
    · have h0' : ¬ ((l / 256 ^ (32 - 1 - i) % 256 : Nat) : Int) ≠ 0 := by omega
      have h0'' : ((l / 256 ^ (32 - 1 - i) % 256 : Nat) : Int) = 0 := by omega
      have hn : l / 256 ^ (32 - (i + 1)) = 0 := by rw [hq, hi2, h0]
      have hz : (((0 * 256 + l / 256 ^ (32 - 1 - i) % 256) : Nat) : Int) = 0 := by omega
      clear hs hl hi2
      refine T_seq ?_
      refine T_seq ?_
      refine T_region ?_
      refine S_val rfl rfl (Y_move rfl) ?_
      refine S_val rfl rfl (Y_lss_t rfl rfl (by omega)) ?_
      refine S_nil ?_
      refine X_seq ?_
      refine T_cond_true rfl ?_
      refine T_skip ?_
      refine X_seq ?_
      refine T_seq ?_
      refine T_block ?_
      refine T_seq ?_
      refine T_seq ?_
      refine T_region ?_
      refine S_val rfl rfl (Y_move rfl) ?_
      refine S_val rfl rfl (Y_lss_t rfl rfl (by omega)) ?_
      refine S_val rfl rfl (Y_move rfl) ?_
      refine S_val rfl rfl (Y_move rfl) ?_
      refine S_val rfl rfl (Y_move rfl) ?_
      refine S_val rfl rfl (Y_ixV (und rfl) (siz rfl) rfl rfl (fun _ hs => hs.rowRd 0 rfl) (nat_cast _) (by simp; omega)) ?_
      refine S_val rfl rfl (Y_loadV (und rfl) rfl rfl (fun _ hs => hs.rowRd 0 rfl) (bel_get (by omega))) ?_
      refine S_val rfl rfl (Y_neq_f rfl rfl (by assumption)) ?_
      refine S_val rfl rfl (Y_pick_t rfl rfl) ?_
      refine S_nil ?_
      refine X_seq ?_
      refine T_cond_false rfl ?_
      refine T_skip ?_
      refine X_seq ?_
      refine T_region ?_
      refine S_val rfl rfl (Y_move rfl) ?_
      refine S_val rfl rfl (Y_mulU rfl rfl (nat_lit' _) (nat_lit' _) rfl (by simp only [IntKind.bits]; omega)) ?_
      refine S_val rfl rfl (Y_move rfl) ?_
      refine S_val rfl rfl (Y_move rfl) ?_
      refine S_val rfl rfl (Y_ixV (und rfl) (siz rfl) rfl rfl (fun _ hs => hs.rowRd 0 rfl) (nat_cast _) (by simp; omega)) ?_
      refine S_val rfl rfl (Y_loadV (und rfl) rfl rfl (fun _ hs => hs.rowRd 0 rfl) (bel_get (by omega))) ?_
      refine S_val rfl rfl (Y_conv (und rfl) (und rfl) rfl (wu64 (by omega) (by omega))) ?_
      refine S_val rfl rfl (Y_addU rfl rfl (nat_cast _) (nat_cast _) rfl (by simp only [IntKind.bits]; omega)) ?_
      refine S_val rfl rfl (Y_assign rfl) ?_
      refine S_nil ?_
      refine X_blk ?_
      refine X_seq ?_
      refine T_region ?_
      refine S_val rfl rfl (Y_move rfl) ?_
      refine S_val rfl rfl (Y_addN rfl rfl (nat_cast _) (nat_lit' _) (by omega)) ?_
      refine S_val rfl rfl (Y_assign rfl) ?_
      refine S_nil ?_
      rw [hz]
      refine X_loop ?_
      exact ⟨i + 1, ⟨by omega, hn⟩, by omega, (by repeat (first | exact Env.sub_nil _ | (apply Env.sub_cons; rfl))), [], rfl⟩
    · have h0' : ((l / 256 ^ (32 - 1 - i) % 256 : Nat) : Int) ≠ 0 := by omega
      clear hs hl hi2
      refine T_seq ?_
      refine T_seq ?_
      refine T_region ?_
      refine S_val rfl rfl (Y_move rfl) ?_
      refine S_val rfl rfl (Y_lss_t rfl rfl (by omega)) ?_
      refine S_nil ?_
      refine X_seq ?_
      refine T_cond_true rfl ?_
      refine T_skip ?_
      refine X_seq ?_
      refine T_seq ?_
      refine T_block ?_
      refine T_seq ?_
      refine T_seq ?_
      refine T_region ?_
      refine S_val rfl rfl (Y_move rfl) ?_
      refine S_val rfl rfl (Y_lss_t rfl rfl (by omega)) ?_
      refine S_val rfl rfl (Y_move rfl) ?_
      refine S_val rfl rfl (Y_move rfl) ?_
      refine S_val rfl rfl (Y_move rfl) ?_
      refine S_val rfl rfl (Y_ixV (und rfl) (siz rfl) rfl rfl (fun _ hs => hs.rowRd 0 rfl) (nat_cast _) (by simp; omega)) ?_
      refine S_val rfl rfl (Y_loadV (und rfl) rfl rfl (fun _ hs => hs.rowRd 0 rfl) (bel_get (by omega))) ?_
      refine S_val rfl rfl (Y_neq_t rfl rfl (by assumption)) ?_
      refine S_val rfl rfl (Y_pick_t rfl rfl) ?_
      refine S_nil ?_
      refine X_seq ?_
      refine T_cond_true rfl ?_
      refine T_seq ?_
      refine T_region ?_
      refine S_val rfl rfl (Y_assign rfl) ?_
      refine S_val rfl rfl (Y_assign rfl) ?_
      refine S_nil ?_
      refine X_seq ?_
      refine T_ret ?_
      refine X_seq_ret ?_
      refine X_blk_ret ?_
      refine X_seq_ret ?_
      refine X_loop_ret ?_
      refine X_blk_ret ?_
      refine X_seq_ret ?_
      ((first | refine X_fin_ret ?_ | refine X_fin ?_); exact ⟨[_, _], [], .cons (.tmp rfl) (.cons (.tmp rfl) .nil), Emb.nil _, rfl, rfl⟩)
theorem rtop_any (n x : Nat) (hx : x < 256 ^ n) (hn : n ≤ 32) (v : Value) (w : World) (hr : Rd w v .u8 (bel n x)) :
    Fn Tryd.prog 33 #[v] w fun u N => u = .int .u64 ((bitLen x - 1 : Nat) : Int) ∧ N = [] := by
  have f := fun w h => rfrom_any n x hx (by omega) v w h
  have hx2 : x < 2 ^ 256 := Nat.lt_of_lt_of_le hx (show 256 ^ n ≤ 256 ^ 32 from Nat.pow_le_pow_right (by omega) hn)
  have l := rlen_any x hx2
  have hb : bitLen x ≤ 256 := by
    unfold bitLen
    split
    · omega
    · rename_i h0
      have := (Nat.log2_lt h0).2 hx2
      omega
  generalize bitLen x = b at *
  by_cases h : b = 0
  · subst h
    refine Fn_of (args := [v]) Tryd.func33 rfl Tryd.ntmps33 Tryd.results33 (by simp) ?_
    refine T_seq ?_
    refine T_region ?_
    refine S_val rfl rfl (Y_assign rfl) ?_
    refine S_nil ?_
    refine X_seq ?_
    refine T_seq ?_
    refine T_region ?_
    refine S_val rfl rfl (Y_move rfl) ?_
    refine S_callV rfl rfl (bod rfl) (fun w hs => f _ (by first | exact hs.rowRd 0 rfl | exact hs.rowRd 1 rfl | exact hs.rowRd 2 rfl | exact hs.rowRd 3 rfl | exact hs.rowRd 4 rfl | exact hs.rowRd 5 rfl | exact hs.rowRd 6 rfl | exact hs.rowRd 7 rfl | exact hs.rowRd 8 rfl | exact hs.rowRd 9 rfl | exact hs.rowRd 10 rfl | exact hs.rowRd 11 rfl | exact hs.rowRd 12 rfl | exact hs.rowRd 13 rfl | exact Rd.st (by assumption) hs)) rfl rfl ?_
    skip
    refine S_callV rfl rfl (bod rfl) (fun w hs => l _) rfl rfl ?_
    refine S_val rfl rfl (Y_assign rfl) ?_
    refine S_nil ?_
    refine X_seq ?_
    refine T_seq ?_
    refine T_seq ?_
    refine T_region ?_
    refine S_val rfl rfl (Y_move rfl) ?_
    refine S_val rfl rfl (Y_eql_t rfl rfl (by decide)) ?_
    refine S_nil ?_
    refine X_seq ?_
    refine T_cond_true rfl ?_
    refine T_seq ?_
    refine T_region ?_
    refine S_val rfl rfl (Y_assign rfl) ?_
    refine S_nil ?_
    refine X_seq ?_
    refine T_ret ?_
    refine X_seq_ret ?_
    ((first | refine X_fin_ret ?_ | refine X_fin ?_); exact ⟨[_], [], .cons (.tmp rfl) .nil, Emb.nil _, rfl, rfl⟩)
  · refine Fn_of (args := [v]) Tryd.func33 rfl Tryd.ntmps33 Tryd.results33 (by simp) ?_
    refine T_seq ?_
    refine T_region ?_
    refine S_val rfl rfl (Y_assign rfl) ?_
    refine S_nil ?_
    refine X_seq ?_
    refine T_seq ?_
    refine T_region ?_
    refine S_val rfl rfl (Y_move rfl) ?_
    refine S_callV rfl rfl (bod rfl) (fun w hs => f _ (by first | exact hs.rowRd 0 rfl | exact hs.rowRd 1 rfl | exact hs.rowRd 2 rfl | exact hs.rowRd 3 rfl | exact hs.rowRd 4 rfl | exact hs.rowRd 5 rfl | exact hs.rowRd 6 rfl | exact hs.rowRd 7 rfl | exact hs.rowRd 8 rfl | exact hs.rowRd 9 rfl | exact hs.rowRd 10 rfl | exact hs.rowRd 11 rfl | exact hs.rowRd 12 rfl | exact hs.rowRd 13 rfl | exact Rd.st (by assumption) hs)) rfl rfl ?_
    skip
    refine S_callV rfl rfl (bod rfl) (fun w hs => l _) rfl rfl ?_
    refine S_val rfl rfl (Y_assign rfl) ?_
    refine S_nil ?_
    refine X_seq ?_
    refine T_seq ?_
    refine T_seq ?_
    refine T_region ?_
    refine S_val rfl rfl (Y_move rfl) ?_
    refine S_val rfl rfl (Y_eql_f rfl rfl (by omega)) ?_
    refine S_nil ?_
    refine X_seq ?_
    refine T_cond_false rfl ?_
    refine T_skip ?_
    refine X_seq ?_
    refine T_seq ?_
    refine T_region ?_
    refine S_val rfl rfl (Y_move rfl) ?_
    refine S_val rfl rfl (Y_subN rfl rfl (nat_cast _) (nat_lit' _) (by omega) (by omega)) ?_
    refine S_val rfl rfl (Y_conv (und rfl) (und rfl) rfl (wu64 (by omega) (by omega))) ?_
    refine S_val rfl rfl (Y_assign rfl) ?_
    refine S_nil ?_
    refine X_seq ?_
    refine T_ret ?_
    ((first | refine X_fin_ret ?_ | refine X_fin ?_); exact ⟨[_], [], .cons (.tmp rfl) .nil, Emb.nil _, rfl, rfl⟩)
theorem rdigits_any (n : Nat) (hn : n < 18446744073709551616) (w : World) : Fn Tryd.prog 34 #[.int .u64 n] w (NR 8 n) := by
  refine Fn_of (args := [.int .u64 n]) Tryd.func34 rfl Tryd.ntmps34 Tryd.results34 (by simp) ?_
  refine T_seq ?_
  refine T_region ?_
  refine S_val rfl rfl (Y_assign rfl) ?_
  refine S_nil ?_
  refine X_seq ?_
  refine T_seq ?_
  refine T_region ?_
  refine S_sliceR (und rfl) (siz rfl) (zer rfl) rfl rfl rfl rfl fun _ => ?_
  refine S_val rfl rfl (Y_assign rfl) ?_
  refine S_nil ?_
  refine X_seq ?_
  refine T_seq ?_
  refine T_block ?_
  rename_i v0
  refine T_loopE (α := Nat × Value) (fun a => a.1 ≤ 8)
    (fun a => [(0, .int .u64 ((n / 256 ^ a.1 : Nat) : Int)), (3, a.2)])
    (fun a => [row .i64 (dl 256 a.1 n) a.2])
    (fun a => 8 - a.1) (0, v0) (by dsimp only; omega) (by dsimp only; rw [Nat.pow_zero, Nat.div_one]; exact (by repeat (first | exact Env.sub_nil _ | (apply Env.sub_cons; rfl)))) (Emb.refl _) ?_
  rintro ⟨j, u⟩ hj
  dsimp only at hj ⊢
  have hle : n / 256 ^ j ≤ n := Nat.div_le_self _ _
  by_cases h : n / 256 ^ j = 0
  · have hlt : n < 256 ^ j := by
      rcases Nat.lt_or_ge n (256 ^ j) with h2 | h2
      · exact h2
      · have := Nat.div_pos h2 (Nat.pow_pos (by omega)); omega
    refine T_seq ?_
    refine T_seq ?_
    refine T_region ?_
    refine S_val rfl rfl (Y_move rfl) ?_
    refine S_val rfl rfl (Y_gtr_f rfl rfl (by omega)) ?_
    refine S_nil ?_
    refine X_seq ?_
    refine T_cond_false rfl ?_
    refine T_exit ?_
    refine X_seq_exit ?_
    refine X_loop_exit ?_
    refine X_blk_hit rfl ?_
    refine X_seq ?_
    refine T_seq ?_
    refine T_region ?_
    refine S_val rfl rfl (Y_move rfl) ?_
    refine S_val rfl rfl (Y_assign rfl) ?_
    refine S_nil ?_
    refine X_seq ?_
    refine T_ret ?_
    ((first | refine X_fin_ret ?_ | refine X_fin ?_); exact ⟨[_], [_], .cons (.tmp rfl) .nil, Emb.one 0 rfl, ⟨j, hlt, hj, rfl⟩⟩)
  · have h8 : j < 8 := by
      rcases Nat.lt_or_ge j 8 with h2 | h2
      · exact h2
      · obtain rfl : j = 8 := by omega
        rw [Nat.div_eq_of_lt (show n < 256 ^ 8 from hn)] at h
        exact absurd rfl h
    have he : dl 256 (j + 1) n = dl 256 j n ++ [((n / 256 ^ j % 256 : Nat) : Int)] := dl_succ 256 j n
    have hq : n / 256 ^ (j + 1) = n / 256 ^ j / 256 := by rw [Nat.pow_succ, Nat.div_div_eq_div_mul]
    have hd := dig256_lt n j
    have h' : (0 : Int) < ((n / 256 ^ j : Nat) : Int) := Int.ofNat_lt.2 (Nat.pos_of_ne_zero h)
    refine T_seq ?_
    refine T_seq ?_
    refine T_region ?_
    refine S_val rfl rfl (Y_move rfl) ?_
    refine S_val rfl rfl (Y_gtr_t rfl rfl (by assumption)) ?_
    refine S_nil ?_
    refine X_seq ?_
    refine T_cond_true rfl ?_
    refine T_skip ?_
    refine X_seq ?_
    refine T_block ?_
    refine T_seq ?_
    refine T_region ?_
    refine S_val rfl rfl (Y_move rfl) ?_
    refine S_val rfl rfl (Y_move rfl) ?_
    refine S_val rfl rfl (Y_remN rfl rfl (nat_cast _) (nat_lit' _) (Nat.succ_ne_zero _)) ?_
    refine S_val rfl rfl (Y_conv (und rfl) (und rfl) rfl (wi64 (by omega) (by omega))) ?_
    refine S_sliceR (und rfl) (siz rfl) (zer rfl) rfl rfl rfl rfl fun _ => ?_
    refine S_append 0 rfl (und rfl) (und rfl) (siz rfl) (byt rfl) (zer rfl) rfl rfl rfl (fun _ hs => hs.rowRd 1 rfl) (by simp; omega) rfl rfl rfl fun _ => ?_
    refine S_val rfl rfl (Y_assign rfl) ?_
    refine S_nil ?_
    refine X_seq ?_
    refine T_region ?_
    refine S_val rfl rfl (Y_move rfl) ?_
    refine S_val rfl rfl (Y_quoN rfl rfl (nat_cast _) (nat_lit' _) (Nat.succ_ne_zero _) (by first | with_reducible exact xi64 (by omega) | with_reducible exact x64 (by omega) | with_reducible exact x8 (by omega) | with_reducible exact x32 (by omega))) ?_
    refine S_val rfl rfl (Y_assign rfl) ?_
    refine S_nil ?_
    refine X_blk ?_
    refine X_loop ?_
    exact ⟨(j + 1, _), by dsimp only; omega, by dsimp only; omega, by dsimp only; rw [hq]; exact (by repeat (first | exact Env.sub_nil _ | (apply Env.sub_cons; rfl))), by dsimp only; rw [he]; exact Emb.one 0 rfl⟩
end Go.Proofs.YtchoncjikdfbgaaDoor
