import Derived.Test.YtchoncjikdfbgaaGreatWide3
import Derived.Test.YtchoncjikdfbgaaGreatRef2
/- What is left of sums and products; powers. -/
namespace Go.Proofs.YtchoncjikdfbgaaGreat
open Go.RowKit
set_option maxRecDepth 20000
set_option maxHeartbeats 4000000

theorem remN_lt {x y : Nat} (hy : 0 < y) : remN x y < y := by
  unfold remN
  rw [if_neg (by omega)]
  exact Nat.mod_lt _ hy
theorem rest_any (lo hi m : Nat) (hlo : lo < 2 ^ 256) (hhi : hi < 2 ^ 256) (hm : m < 2 ^ 256) (w : World) :
    Fn Tryz.prog 27 #[W lo, W hi, W m] w fun v N => v = W (remN (hi * 2 ^ 256 + lo) m) ∧ N = [] := by
  by_cases h0 : m = 0
  · have em : dl 18446744073709551616 4 m = fillI (List.replicate 4 0) [] := by rw [h0]; exact e_zero
    refine Fn_of (args := [W lo, W hi, W m]) Tryz.func27 rfl Tryz.ntmps27 Tryz.results27 (by simp) ?_
    refine T_seq ?_
    refine T_region ?_
    refine S_boxA rfl rfl rfl fun _ => ?_
    refine S_boxA rfl rfl rfl fun _ => ?_
    refine S_boxA rfl rfl rfl fun _ => ?_
    refine S_allocA (zer rfl) rfl rfl fun _ => ?_
    refine S_nil ?_
    refine X_seq ?_
    refine T_seq ?_
    refine T_seq ?_
    refine T_region ?_
    refine S_val rfl rfl (Y_loadAI 2 (und rfl) rfl rfl rfl (siz rfl) (dl_length _ _ _)) ?_
    refine S_val rfl rfl (Y_build (und rfl) (siz rfl) (zer rfl) rfl rfl) ?_
    refine S_val rfl rfl (Y_eqlA_t (eqg rfl) (und rfl) (und rfl) (siz rfl) rfl rfl (dl_length _ _ _) (by assumption)) ?_
    refine S_nil ?_
    refine X_seq ?_
    refine T_cond_true rfl ?_
    refine T_seq ?_
    refine T_region ?_
    refine S_val rfl rfl (Y_loadAI 2 (und rfl) rfl rfl rfl (siz rfl) (dl_length _ _ _)) ?_
    refine S_storeAI 3 (siz rfl) rfl rfl rfl rfl (dl_length _ _ _) rfl ?_
    refine S_nil ?_
    refine X_seq ?_
    refine T_ret ?_
    refine X_seq_ret ?_
    ((first | refine X_fin_ret ?_ | refine X_fin ?_); exact ⟨[_], [], .cons (.agg 3 rfl (und rfl) rfl rfl (siz rfl)) .nil, Emb.nil _, by unfold remN; rw [if_pos h0, h0]; rfl, rfl⟩)
  · have em : ¬ dl 18446744073709551616 4 m = fillI (List.replicate 4 0) [] := by rw [← e_zero]; exact W_ne hm (by omega) h0
    have hm0 : 0 < m := by omega
    obtain ⟨N, hN⟩ : ∃ N, N = hi * 2 ^ 256 + lo := ⟨_, rfl⟩
    have hNh : N / 2 ^ 256 = hi := by rw [hN]; omega
    have hlb : ∀ i, i < 256 → lo.testBit i = decide (N / 2 ^ i % 2 = 1) := fun i hi' => by rw [hN]; exact low_bit hi lo i hi'
    rw [← hN, show remN N m = N % m by unfold remN; rw [if_neg h0]]
    have hdv : ∀ w, Fn Tryz.prog 66 #[W hi, W m] w fun v N => v = .tuple #[W (hi / m), W (hi % m)] ∧ N = [] := fun w => by
      have := wdiv_any hi m hhi hm w
      rwa [show remN hi m = hi % m by unfold remN; rw [if_neg h0]] at this
    refine Fn_of (args := [W lo, W hi, W m]) Tryz.func27 rfl Tryz.ntmps27 Tryz.results27 (by simp) ?_
    refine T_seq ?_
    refine T_region ?_
    refine S_boxA rfl rfl rfl fun _ => ?_
    refine S_boxA rfl rfl rfl fun _ => ?_
    refine S_boxA rfl rfl rfl fun _ => ?_
    refine S_allocA (zer rfl) rfl rfl fun _ => ?_
    refine S_nil ?_
    refine X_seq ?_
    refine T_seq ?_
    refine T_seq ?_
    refine T_region ?_
    refine S_val rfl rfl (Y_loadAI 2 (und rfl) rfl rfl rfl (siz rfl) (dl_length _ _ _)) ?_
    refine S_val rfl rfl (Y_build (und rfl) (siz rfl) (zer rfl) rfl rfl) ?_
    refine S_val rfl rfl (Y_eqlA_f (eqg rfl) (und rfl) (und rfl) (siz rfl) rfl rfl (dl_length _ _ _) rfl (by assumption)) ?_
    refine S_nil ?_
    refine X_seq ?_
    refine T_cond_false rfl ?_
    refine T_skip ?_
    refine X_seq ?_
    refine T_seq ?_
    refine T_region ?_
    refine S_val rfl rfl (Y_loadAI 1 (und rfl) rfl rfl rfl (siz rfl) (dl_length _ _ _)) ?_
    refine S_val rfl rfl (Y_loadAI 2 (und rfl) rfl rfl rfl (siz rfl) (dl_length _ _ _)) ?_
    refine S_callV rfl rfl (bod rfl) (fun w hs => hdv _) rfl rfl ?_
    refine S_val rfl rfl (Y_move rfl) ?_
    refine S_val rfl rfl (Y_extract rfl rfl) ?_
    refine S_val rfl rfl (Y_extract rfl rfl) ?_
    refine S_allocA (zer rfl) rfl rfl fun _ => ?_
    refine S_allocA (zer rfl) rfl rfl fun _ => ?_
    refine S_storeAI 4 (siz rfl) rfl rfl rfl rfl (dl_length _ _ _) rfl ?_
    refine S_storeAI 5 (siz rfl) rfl rfl rfl rfl (dl_length _ _ _) rfl ?_
    refine S_nil ?_
    refine X_seq ?_
    refine T_seq ?_
    refine T_seq ?_
    refine T_region ?_
    refine S_val rfl rfl (Y_assign rfl) ?_
    refine S_nil ?_
    refine X_seq ?_
    refine T_block ?_
    rename_i b0 b1 b2 b3 b4 b5
    refine T_loopE (α := Nat) (fun j => j ≤ 256)
      (fun j => [(3, .pointer (some ⟨b0, 0, none⟩)), (4, .pointer (some ⟨b1, 0, none⟩)), (5, .pointer (some ⟨b2, 0, none⟩)), (6, .pointer (some ⟨b3, 0, none⟩)), (8, .pointer (some ⟨b5, 0, none⟩)), (9, .int .i64 ((j : Int) - 1))])
      (fun j => [blk b0 (.cells (ints .u64 (dl 18446744073709551616 4 (lo))) 24 (0, 0)), blk b1 (.cells (ints .u64 (dl 18446744073709551616 4 (hi))) 24 (0, 0)), blk b2 (.cells (ints .u64 (dl 18446744073709551616 4 (m))) 24 (0, 0)), blk b3 (.cells (ints .u64 (List.replicate 4 0)) 24 (0, 0)), blk b5 (.cells (ints .u64 (dl 18446744073709551616 4 (N / 2 ^ j % m))) 24 (0, 0))])
      (fun j => j) 256 (Nat.le_refl _) (by repeat (first | exact Env.sub_nil _ | (apply Env.sub_cons; rfl))) (by rw [hNh]; exact Emb.idx [0, 1, 2, 3, 5] rfl rfl) ?_
    intro j hj
    by_cases hj0 : j = 0
    · subst hj0
      refine T_seq ?_
      refine T_seq ?_
      refine T_region ?_
      refine S_val rfl rfl (Y_move rfl) ?_
      refine S_val rfl rfl (Y_geq_f rfl rfl (by decide)) ?_
      refine S_nil ?_
      refine X_seq ?_
      refine T_cond_false rfl ?_
      refine T_exit ?_
      refine X_seq_exit ?_
      refine X_loop_exit ?_
      refine X_blk_hit rfl ?_
      refine X_seq ?_
      refine T_seq ?_
      refine T_region ?_
      refine S_val rfl rfl (Y_loadAI 4 (und rfl) rfl rfl rfl (siz rfl) (dl_length _ _ _)) ?_
      refine S_storeAI 3 (siz rfl) rfl rfl rfl rfl (dl_length _ _ _) rfl ?_
      refine S_nil ?_
      refine X_seq ?_
      refine T_ret ?_
      ((first | refine X_fin_ret ?_ | refine X_fin ?_); exact ⟨[_], [], .cons (.agg 3 rfl (und rfl) rfl rfl (siz rfl)) .nil, Emb.nil _, by rw [Nat.pow_zero, Nat.div_one]; rfl, rfl⟩)
    · obtain ⟨i, rfl⟩ : ∃ i, j = i + 1 := ⟨j - 1, by omega⟩
      rw [show (((i + 1 : Nat) : Int) - 1) = (i : Int) by omega]
      obtain ⟨_, _, hb3⟩ := bit_step (N := N) (i := i) hm0
      have hl := Nat.mod_lt (N / 2 ^ (i + 1)) hm0
      have hbl2 : N / 2 ^ i % 2 < 2 := Nat.mod_lt _ (by omega)
      have hbit := fun w => bit_any lo i hlo (by omega) w
      rw [hlb i (by omega)] at hbit
      have hstep := fun w => step_any (N / 2 ^ (i + 1) % m) m (N / 2 ^ i % 2) hm hl hbl2 w
      rw [← hb3] at hstep
      generalize N / 2 ^ (i + 1) % m = l at *
      generalize hbb : decide (N / 2 ^ i % 2 = 1) = bb at *
      generalize hr2 : N / 2 ^ i % m = r2 at *
      generalize decide (m ≤ 2 * l + N / 2 ^ i % 2) = cc at *
      refine T_seq ?_
      refine T_seq ?_
      refine T_region ?_
      refine S_val rfl rfl (Y_move rfl) ?_
      refine S_val rfl rfl (Y_geq_t rfl rfl (by omega)) ?_
      refine S_nil ?_
      refine X_seq ?_
      refine T_cond_true rfl ?_
      refine T_skip ?_
      refine X_seq ?_
      refine T_seq ?_
      refine T_block ?_
      refine T_draw (by kernel_rfl) (by kernel_rfl) rfl ?_
      refine D0_valM rfl rfl rfl (Y_loadAI 4 (und rfl) rfl rfl rfl (siz rfl) (dl_length _ _ _)) ?_
      refine D0_valM rfl rfl rfl (Y_loadAI 2 (und rfl) rfl rfl rfl (siz rfl) (dl_length _ _ _)) ?_
      refine D0_valM rfl rfl rfl (Y_loadAI 0 (und rfl) rfl rfl rfl (siz rfl) (dl_length _ _ _)) ?_
      refine D0_val rfl rfl rfl (Y_move rfl) ?_
      refine D0_valM rfl rfl rfl (Y_conv (und rfl) (und rfl) rfl (wu64 (by omega) (by omega))) ?_
      refine D0_callV rfl rfl (bod rfl) (fun w hs => hbit _) rfl rfl ?_
      skip
      refine D0_callV rfl rfl (bod rfl) (fun w hs => hstep _) rfl rfl ?_
      refine D0_val rfl rfl rfl (Y_move rfl) ?_
      refine D0_val rfl rfl rfl (Y_extract rfl rfl) ?_
      refine D0_val rfl rfl rfl (Y_extract rfl rfl) ?_
      refine D0_storeAI 4 rfl (siz rfl) rfl rfl rfl (dl_length _ _ _) (dl_length _ _ _) rfl ?_
      refine D0_nil ?_
      refine X_blk ?_
      refine X_seq ?_
      refine T_region ?_
      refine S_val rfl rfl (Y_move rfl) ?_
      refine S_val rfl rfl (Y_sub rfl rfl (wi64 (by omega) (by omega))) ?_
      refine S_val rfl rfl (Y_assign rfl) ?_
      refine S_nil ?_
      refine X_loop ?_
      refine ⟨i, by omega, by omega, (by repeat (first | exact Env.sub_nil _ | (apply Env.sub_cons; rfl))), ?_⟩
      rw [hr2]
      exact Emb.refl _
theorem addmod_any (x y m : Nat) (hx : x < 2 ^ 256) (hy : y < 2 ^ 256) (hm : m < 2 ^ 256) (w : World) :
    Fn Tryz.prog 9 #[W x, W y, W m] w fun v N => v = W (remN (x + y) m) ∧ N = [] := by
  have had := fun w => add_any x y hx hy w
  have hkl : (x + y) % 2 ^ 256 < 2 ^ 256 := Nat.mod_lt _ (by omega)
  by_cases h : x + y < 2 ^ 256
  · have hk : (x + y) % 2 ^ 256 = x + y := Nat.mod_eq_of_lt h
    rw [hk] at had
    obtain ⟨c, hc0, hc⟩ : ∃ c : Int, ¬ c < 0 ∧ ∀ w, Fn Tryz.prog 26 #[W (x + y), W x] w fun v N => v = .int .i64 c ∧ N = [] :=
      ⟨cmpI (x + y) x, by unfold cmpI; rw [if_neg (by omega)]; split <;> omega, fun w => compare_any _ x h hx w⟩
    have hr := fun w => rest_any (x + y) 0 m h (by omega) hm w
    rw [Nat.zero_mul, Nat.zero_add] at hr
    refine Fn_of (args := [W x, W y, W m]) Tryz.func9 rfl Tryz.ntmps9 Tryz.results9 (by simp) ?_
    refine T_seq ?_
    refine T_region ?_
    refine S_boxA rfl rfl rfl fun _ => ?_
    refine S_boxA rfl rfl rfl fun _ => ?_
    refine S_boxA rfl rfl rfl fun _ => ?_
    refine S_allocA (zer rfl) rfl rfl fun _ => ?_
    refine S_nil ?_
    refine X_seq ?_
    refine T_seq ?_
    refine T_region ?_
    refine S_val rfl rfl (Y_loadAI 0 (und rfl) rfl rfl rfl (siz rfl) (dl_length _ _ _)) ?_
    refine S_val rfl rfl (Y_loadAI 1 (und rfl) rfl rfl rfl (siz rfl) (dl_length _ _ _)) ?_
    refine S_callV rfl rfl (bod rfl) (fun w hs => had _) rfl rfl ?_
    refine S_allocA (zer rfl) rfl rfl fun _ => ?_
    refine S_storeAI 4 (siz rfl) rfl rfl rfl rfl (dl_length _ _ _) rfl ?_
    refine S_nil ?_
    refine X_seq ?_
    refine T_seq ?_
    refine T_region ?_
    refine S_allocA (zer rfl) rfl rfl fun _ => ?_
    refine S_nil ?_
    refine X_seq ?_
    refine T_seq ?_
    refine T_seq ?_
    refine T_region ?_
    refine S_val rfl rfl (Y_loadAI 4 (und rfl) rfl rfl rfl (siz rfl) (dl_length _ _ _)) ?_
    refine S_val rfl rfl (Y_loadAI 0 (und rfl) rfl rfl rfl (siz rfl) (dl_length _ _ _)) ?_
    refine S_callV rfl rfl (bod rfl) (fun w hs => hc _) rfl rfl ?_
    refine S_val rfl rfl (Y_lss_f rfl rfl (by assumption)) ?_
    refine S_nil ?_
    refine X_seq ?_
    refine T_cond_false rfl ?_
    refine T_skip ?_
    refine X_seq ?_
    refine T_seq ?_
    refine T_region ?_
    refine S_val rfl rfl (Y_loadAI 4 (und rfl) rfl rfl rfl (siz rfl) (dl_length _ _ _)) ?_
    refine S_val rfl rfl (Y_loadAI 5 (und rfl) rfl rfl rfl (siz rfl) rfl) ?_
    refine S_val rfl rfl (Y_loadAI 2 (und rfl) rfl rfl rfl (siz rfl) (dl_length _ _ _)) ?_
    refine S_callV rfl rfl (bod rfl) (fun w hs => hr _) rfl rfl ?_
    refine S_storeAI 3 (siz rfl) rfl rfl rfl rfl (dl_length _ _ _) rfl ?_
    refine S_nil ?_
    refine X_seq ?_
    refine T_ret ?_
    ((first | refine X_fin_ret ?_ | refine X_fin ?_); exact ⟨[_], [], .cons (.agg 3 rfl (und rfl) rfl rfl (siz rfl)) .nil, Emb.nil _, rfl, rfl⟩)
  · obtain ⟨c, hc0, hc⟩ : ∃ c : Int, c < 0 ∧ ∀ w, Fn Tryz.prog 26 #[W ((x + y) % 2 ^ 256), W x] w fun v N => v = .int .i64 c ∧ N = [] :=
      ⟨cmpI ((x + y) % 2 ^ 256) x, by unfold cmpI; rw [if_pos (by omega)]; omega, fun w => compare_any _ x hkl hx w⟩
    have hr := fun w => rest_any ((x + y) % 2 ^ 256) 1 m hkl (by omega) hm w
    rw [show 1 * 2 ^ 256 + (x + y) % 2 ^ 256 = x + y by omega] at hr
    refine Fn_of (args := [W x, W y, W m]) Tryz.func9 rfl Tryz.ntmps9 Tryz.results9 (by simp) ?_
    refine T_seq ?_
    refine T_region ?_
    refine S_boxA rfl rfl rfl fun _ => ?_
    refine S_boxA rfl rfl rfl fun _ => ?_
    refine S_boxA rfl rfl rfl fun _ => ?_
    refine S_allocA (zer rfl) rfl rfl fun _ => ?_
    refine S_nil ?_
    refine X_seq ?_
    refine T_seq ?_
    refine T_region ?_
    refine S_val rfl rfl (Y_loadAI 0 (und rfl) rfl rfl rfl (siz rfl) (dl_length _ _ _)) ?_
    refine S_val rfl rfl (Y_loadAI 1 (und rfl) rfl rfl rfl (siz rfl) (dl_length _ _ _)) ?_
    refine S_callV rfl rfl (bod rfl) (fun w hs => had _) rfl rfl ?_
    refine S_allocA (zer rfl) rfl rfl fun _ => ?_
    refine S_storeAI 4 (siz rfl) rfl rfl rfl rfl (dl_length _ _ _) rfl ?_
    refine S_nil ?_
    refine X_seq ?_
    refine T_seq ?_
    refine T_region ?_
    refine S_allocA (zer rfl) rfl rfl fun _ => ?_
    refine S_nil ?_
    refine X_seq ?_
    refine T_seq ?_
    refine T_seq ?_
    refine T_region ?_
    refine S_val rfl rfl (Y_loadAI 4 (und rfl) rfl rfl rfl (siz rfl) (dl_length _ _ _)) ?_
    refine S_val rfl rfl (Y_loadAI 0 (und rfl) rfl rfl rfl (siz rfl) (dl_length _ _ _)) ?_
    refine S_callV rfl rfl (bod rfl) (fun w hs => hc _) rfl rfl ?_
    refine S_val rfl rfl (Y_lss_t rfl rfl (by assumption)) ?_
    refine S_nil ?_
    refine X_seq ?_
    refine T_cond_true rfl ?_
    refine T_region ?_
    refine S_val rfl rfl (Y_ixa (und rfl) (siz rfl) rfl rfl (nat_lit' _) (Nat.le_of_ble_eq_true rfl)) ?_
    refine S_storeI 5 (siz rfl) rfl rfl rfl (Nat.le_of_ble_eq_true rfl) rfl rfl ?_
    refine S_nil ?_
    refine X_seq ?_
    refine T_seq ?_
    refine T_region ?_
    refine S_val rfl rfl (Y_loadAI 4 (und rfl) rfl rfl rfl (siz rfl) (dl_length _ _ _)) ?_
    refine S_val rfl rfl (Y_loadAI 5 (und rfl) rfl rfl rfl (siz rfl) rfl) ?_
    refine S_val rfl rfl (Y_loadAI 2 (und rfl) rfl rfl rfl (siz rfl) (dl_length _ _ _)) ?_
    refine S_callV rfl rfl (bod rfl) (fun w hs => hr _) rfl rfl ?_
    refine S_storeAI 3 (siz rfl) rfl rfl rfl rfl (dl_length _ _ _) rfl ?_
    refine S_nil ?_
    refine X_seq ?_
    refine T_ret ?_
    ((first | refine X_fin_ret ?_ | refine X_fin ?_); exact ⟨[_], [], .cons (.agg 3 rfl (und rfl) rfl rfl (siz rfl)) .nil, Emb.nil _, rfl, rfl⟩)
theorem mulmod_any (x y m : Nat) (hx : x < 2 ^ 256) (hy : y < 2 ^ 256) (hm : m < 2 ^ 256) (w : World) :
    Fn Tryz.prog 10 #[W x, W y, W m] w fun v N => v = W (remN (x * y) m) ∧ N = [] := by
  have hd : x * y < 2 ^ 256 * 2 ^ 256 := Nat.mul_lt_mul'' hx hy
  have hr := fun w => rest_any (x * y % 2 ^ 256) (x * y / 2 ^ 256) m (Nat.mod_lt _ (by omega)) (Nat.div_lt_of_lt_mul hd) hm w
  rw [show x * y / 2 ^ 256 * 2 ^ 256 + x * y % 2 ^ 256 = x * y by omega, W_mod] at hr
  refine Fn_of (args := [W x, W y, W m]) Tryz.func10 rfl Tryz.ntmps10 Tryz.results10 (by simp) ?_
  refine T_seq ?_
  refine T_region ?_
  refine S_boxA rfl rfl rfl fun _ => ?_
  refine S_boxA rfl rfl rfl fun _ => ?_
  refine S_boxA rfl rfl rfl fun _ => ?_
  refine S_allocA (zer rfl) rfl rfl fun _ => ?_
  refine S_nil ?_
  refine X_seq ?_
  refine T_seq ?_
  refine T_region ?_
  refine S_val rfl rfl (Y_loadAI 0 (und rfl) rfl rfl rfl (siz rfl) (dl_length _ _ _)) ?_
  refine S_val rfl rfl (Y_loadAI 1 (und rfl) rfl rfl rfl (siz rfl) (dl_length _ _ _)) ?_
  refine S_callV rfl rfl (bod rfl) (fun w hs => product_any x y hx hy _) rfl rfl ?_
  refine S_val rfl rfl (Y_move rfl) ?_
  refine S_val rfl rfl (Y_extract rfl rfl) ?_
  refine S_val rfl rfl (Y_extract rfl rfl) ?_
  refine S_allocA (zer rfl) rfl rfl fun _ => ?_
  refine S_allocA (zer rfl) rfl rfl fun _ => ?_
  refine S_storeAI 4 (siz rfl) rfl rfl rfl rfl (dl_length _ _ _) rfl ?_
  refine S_storeAI 5 (siz rfl) rfl rfl rfl rfl (dl_length _ _ _) rfl ?_
  refine S_nil ?_
  refine X_seq ?_
  refine T_seq ?_
  refine T_region ?_
  refine S_val rfl rfl (Y_loadAI 4 (und rfl) rfl rfl rfl (siz rfl) (dl_length _ _ _)) ?_
  refine S_val rfl rfl (Y_loadAI 5 (und rfl) rfl rfl rfl (siz rfl) (dl_length _ _ _)) ?_
  refine S_val rfl rfl (Y_loadAI 2 (und rfl) rfl rfl rfl (siz rfl) (dl_length _ _ _)) ?_
  refine S_callV rfl rfl (bod rfl) (fun w hs => hr _) rfl rfl ?_
  refine S_storeAI 3 (siz rfl) rfl rfl rfl rfl (dl_length _ _ _) rfl ?_
  refine S_nil ?_
  refine X_seq ?_
  refine T_ret ?_
  ((first | refine X_fin_ret ?_ | refine X_fin ?_); exact ⟨[_], [], .cons (.agg 3 rfl (und rfl) rfl rfl (siz rfl)) .nil, Emb.nil _, rfl, rfl⟩)

/-- A power, going round. -/
def expN (a n : Nat) : Nat := a ^ n % 2 ^ 256
theorem exp_step (a n i : Nat) : (expN a (n / 2 ^ (i + 1)) * expN a (n / 2 ^ (i + 1))) % 2 ^ 256 = expN a (2 * (n / 2 ^ (i + 1))) := by
  unfold expN
  rw [← Nat.mul_mod, ← Nat.pow_add, Nat.two_mul]
theorem exp_bit (a n i : Nat) (hb : n / 2 ^ i % 2 = 1) : expN a (2 * (n / 2 ^ (i + 1))) * a % 2 ^ 256 = expN a (n / 2 ^ i) := by
  have e : n / 2 ^ i = 2 * (n / 2 ^ (i + 1)) + 1 := by rw [Nat.pow_succ, ← Nat.div_div_eq_div_mul]; omega
  unfold expN
  rw [e, Nat.mod_mul_mod, ← Nat.pow_succ]
theorem exp_bit0 (n i : Nat) (hb : n / 2 ^ i % 2 = 0) : n / 2 ^ i = 2 * (n / 2 ^ (i + 1)) := by
  rw [Nat.pow_succ, ← Nat.div_div_eq_div_mul]; omega
theorem wexp_any (a n : Nat) (_ha : a < 2 ^ 256) (hn : n < 2 ^ 256) (w : World) : Fn Tryz.prog 73 #[W a, W n] w fun v N => v = W (expN a n) ∧ N = [] := by
  have hbl := bitLen_256 n hn
  have hlen : ∀ w, Fn Tryz.prog 96 #[W n] w fun v N => v = .int .i64 ((bitLen n : Nat) : Int) ∧ N = [] := len_any n hn
  have hx0 := bitLen_pow n
  generalize bitLen n = k at *
  refine Fn_of (args := [W a, W n]) Tryz.func73 rfl Tryz.ntmps73 Tryz.results73 (by simp) ?_
  refine T_seq ?_
  refine T_region ?_
  refine S_boxA rfl rfl rfl fun _ => ?_
  refine S_boxA rfl rfl rfl fun _ => ?_
  refine S_allocA (zer rfl) rfl rfl fun _ => ?_
  refine S_nil ?_
  refine X_seq ?_
  refine T_seq ?_
  refine T_region ?_
  refine S_callV rfl rfl (bod rfl) (fun w hs => of_any 1 (by omega) _) rfl rfl ?_
  refine S_allocA (zer rfl) rfl rfl fun _ => ?_
  refine S_storeAI 3 (siz rfl) rfl rfl rfl rfl (dl_length _ _ _) rfl ?_
  refine S_nil ?_
  refine X_seq ?_
  refine T_seq ?_
  refine T_seq ?_
  refine T_region ?_
  refine S_val rfl rfl (Y_loadAI 1 (und rfl) rfl rfl rfl (siz rfl) (dl_length _ _ _)) ?_
  refine S_callV rfl rfl (bod rfl) (fun w hs => hlen _) rfl rfl ?_
  refine S_val rfl rfl (Y_sub rfl rfl (wi64 (by omega) (by omega))) ?_
  refine S_val rfl rfl (Y_assign rfl) ?_
  refine S_nil ?_
  refine X_seq ?_
  refine T_block ?_
  rename_i b0 b1 b2 b3
  refine T_loop (α := Nat) (fun j => j ≤ 256)
    (fun j => [(2, .pointer (some ⟨b0, 0, none⟩)), (3, .pointer (some ⟨b1, 0, none⟩)), (4, .pointer (some ⟨b2, 0, none⟩)), (5, .pointer (some ⟨b3, 0, none⟩)), (6, .int .i64 ((j : Int) - 1))])
    (fun j => [blk b0 (.cells (ints .u64 (dl 18446744073709551616 4 (a))) 24 (0, 0)), blk b1 (.cells (ints .u64 (dl 18446744073709551616 4 (n))) 24 (0, 0)), blk b2 (.cells (ints .u64 (List.replicate 4 0)) 24 (0, 0)), blk b3 (.cells (ints .u64 (dl 18446744073709551616 4 (expN a (n / 2 ^ j)))) 24 (0, 0))])
    (fun j => j) k hbl (by repeat (first | exact Env.sub_nil _ | (apply Env.sub_cons; rfl))) [] (by rw [hx0]; unfold expN; rw [Nat.pow_zero]; rfl) ?_
  intro j hj
  by_cases hj0 : j = 0
  · subst hj0
    refine T_seq ?_
    refine T_seq ?_
    refine T_region ?_
    refine S_val rfl rfl (Y_move rfl) ?_
    refine S_val rfl rfl (Y_geq_f rfl rfl (by decide)) ?_
    refine S_nil ?_
    refine X_seq ?_
    refine T_cond_false rfl ?_
    refine T_exit ?_
    refine X_seq_exit ?_
    refine X_loop_exit ?_
    refine X_blk_hit rfl ?_
    refine X_seq ?_
    refine T_seq ?_
    refine T_region ?_
    refine S_val rfl rfl (Y_loadAI 3 (und rfl) rfl rfl rfl (siz rfl) (dl_length _ _ _)) ?_
    refine S_storeAI 2 (siz rfl) rfl rfl rfl rfl (dl_length _ _ _) rfl ?_
    refine S_nil ?_
    refine X_seq ?_
    refine T_ret ?_
    ((first | refine X_fin_ret ?_ | refine X_fin ?_); exact ⟨[_], [], .cons (.agg 2 rfl (und rfl) rfl rfl (siz rfl)) .nil, Emb.nil _, by rw [Nat.pow_zero, Nat.div_one]; rfl, rfl⟩)
  · obtain ⟨i, rfl⟩ : ∃ i, j = i + 1 := ⟨j - 1, by omega⟩
    rw [show (((i + 1 : Nat) : Int) - 1) = (i : Int) by omega]
    have m1 := fun w => mul_any (expN a (n / 2 ^ (i + 1))) (expN a (n / 2 ^ (i + 1))) w
    rw [exp_step] at m1
    have hbit := fun w => bit_any n i hn (by omega) w
    simp only [Nat.testBit_eq_decide_div_mod_eq] at hbit
    rcases (show n / 2 ^ i % 2 = 1 ∨ n / 2 ^ i % 2 = 0 by omega) with hb | hb
    · rw [decide_eq_true hb] at hbit
      have m2 := fun w => mul_any (expN a (2 * (n / 2 ^ (i + 1)))) a w
      rw [exp_bit a n i hb] at m2
      refine T_seq ?_
      refine T_seq ?_
      refine T_region ?_
      refine S_val rfl rfl (Y_move rfl) ?_
      refine S_val rfl rfl (Y_geq_t rfl rfl (by omega)) ?_
      refine S_nil ?_
      refine X_seq ?_
      refine T_cond_true rfl ?_
      refine T_skip ?_
      refine X_seq ?_
      refine T_seq ?_
      refine T_block ?_
      refine T_seq ?_
      refine T_region ?_
      refine S_val rfl rfl (Y_loadAI 3 (und rfl) rfl rfl rfl (siz rfl) (dl_length _ _ _)) ?_
      refine S_val rfl rfl (Y_loadAI 3 (und rfl) rfl rfl rfl (siz rfl) (dl_length _ _ _)) ?_
      refine S_callV rfl rfl (bod rfl) (fun w hs => m1 _) rfl rfl ?_
      refine S_storeAI 3 (siz rfl) rfl rfl rfl (dl_length _ _ _) (dl_length _ _ _) rfl ?_
      refine S_nil ?_
      refine X_seq ?_
      refine T_seq ?_
      refine T_region ?_
      refine S_val rfl rfl (Y_loadAI 1 (und rfl) rfl rfl rfl (siz rfl) (dl_length _ _ _)) ?_
      refine S_val rfl rfl (Y_move rfl) ?_
      refine S_val rfl rfl (Y_conv (und rfl) (und rfl) rfl (wu64 (by omega) (by omega))) ?_
      refine S_callV rfl rfl (bod rfl) (fun w hs => hbit _) rfl rfl ?_
      refine S_nil ?_
      refine X_seq ?_
      refine T_cond_true rfl ?_
      refine T_region ?_
      refine S_val rfl rfl (Y_loadAI 3 (und rfl) rfl rfl rfl (siz rfl) (dl_length _ _ _)) ?_
      refine S_val rfl rfl (Y_loadAI 0 (und rfl) rfl rfl rfl (siz rfl) (dl_length _ _ _)) ?_
      refine S_callV rfl rfl (bod rfl) (fun w hs => m2 _) rfl rfl ?_
      refine S_storeAI 3 (siz rfl) rfl rfl rfl (dl_length _ _ _) (dl_length _ _ _) rfl ?_
      refine S_nil ?_
      refine X_blk ?_
      refine X_seq ?_
      refine T_region ?_
      refine S_val rfl rfl (Y_move rfl) ?_
      refine S_val rfl rfl (Y_sub rfl rfl (wi64 (by omega) (by omega))) ?_
      refine S_val rfl rfl (Y_assign rfl) ?_
      refine S_nil ?_
      refine X_loop ?_
      exact ⟨i, by omega, by omega, (by repeat (first | exact Env.sub_nil _ | (apply Env.sub_cons; rfl))), [], rfl⟩
    · rw [decide_eq_false (by omega)] at hbit
      rw [← exp_bit0 n i hb] at m1
      refine T_seq ?_
      refine T_seq ?_
      refine T_region ?_
      refine S_val rfl rfl (Y_move rfl) ?_
      refine S_val rfl rfl (Y_geq_t rfl rfl (by omega)) ?_
      refine S_nil ?_
      refine X_seq ?_
      refine T_cond_true rfl ?_
      refine T_skip ?_
      refine X_seq ?_
      refine T_seq ?_
      refine T_block ?_
      refine T_seq ?_
      refine T_region ?_
      refine S_val rfl rfl (Y_loadAI 3 (und rfl) rfl rfl rfl (siz rfl) (dl_length _ _ _)) ?_
      refine S_val rfl rfl (Y_loadAI 3 (und rfl) rfl rfl rfl (siz rfl) (dl_length _ _ _)) ?_
      refine S_callV rfl rfl (bod rfl) (fun w hs => m1 _) rfl rfl ?_
      refine S_storeAI 3 (siz rfl) rfl rfl rfl (dl_length _ _ _) (dl_length _ _ _) rfl ?_
      refine S_nil ?_
      refine X_seq ?_
      refine T_seq ?_
      refine T_region ?_
      refine S_val rfl rfl (Y_loadAI 1 (und rfl) rfl rfl rfl (siz rfl) (dl_length _ _ _)) ?_
      refine S_val rfl rfl (Y_move rfl) ?_
      refine S_val rfl rfl (Y_conv (und rfl) (und rfl) rfl (wu64 (by omega) (by omega))) ?_
      refine S_callV rfl rfl (bod rfl) (fun w hs => hbit _) rfl rfl ?_
      refine S_nil ?_
      refine X_seq ?_
      refine T_cond_false rfl ?_
      refine T_skip ?_
      refine X_blk ?_
      refine X_seq ?_
      refine T_region ?_
      refine S_val rfl rfl (Y_move rfl) ?_
      refine S_val rfl rfl (Y_sub rfl rfl (wi64 (by omega) (by omega))) ?_
      refine S_val rfl rfl (Y_assign rfl) ?_
      refine S_nil ?_
      refine X_loop ?_
      exact ⟨i, by omega, by omega, (by repeat (first | exact Env.sub_nil _ | (apply Env.sub_cons; rfl))), [], rfl⟩
theorem exp_dbl (a j : Nat) : expN a (2 ^ j) * expN a (2 ^ j) % 2 ^ 256 = expN a (2 ^ (j + 1)) := by
  unfold expN
  have e : 2 ^ (j + 1) = 2 ^ j + 2 ^ j := by rw [Nat.pow_succ, Nat.mul_two]
  rw [← Nat.mul_mod, ← Nat.pow_add, e]
theorem rexp_any (a n : Nat) (ha : a < 2 ^ 256) (hn : n < 2 ^ 256) (w : World) : Fn Tryz.prog 61 #[W a, W n] w fun v N => v = W (expN a n) ∧ N = [] := by
  have e1 : fillI (List.replicate 32 0) [(0, 1)] = dl 256 32 (expN a (n % 2 ^ 0)) := by
    rw [Nat.pow_zero, Nat.mod_one]
    unfold expN
    rw [Nat.pow_zero]
    decide +kernel
  refine Fn_of (args := [W a, W n]) Tryz.func61 rfl Tryz.ntmps61 Tryz.results61 (by simp) ?_
  refine T_seq ?_
  refine T_region ?_
  refine S_boxA rfl rfl rfl fun _ => ?_
  refine S_boxA rfl rfl rfl fun _ => ?_
  refine S_allocA (zer rfl) rfl rfl fun _ => ?_
  refine S_nil ?_
  refine X_seq ?_
  refine T_seq ?_
  refine T_region ?_
  refine S_val rfl rfl (Y_loadAI 1 (und rfl) rfl rfl rfl (siz rfl) (dl_length _ _ _)) ?_
  refine S_callV rfl rfl (bod rfl) (fun w hs => rof_any n _) rfl rfl ?_
  refine S_allocA (zer rfl) rfl rfl fun _ => ?_
  refine S_storeAI 3 (siz rfl) rfl rfl rfl rfl (dl_length _ _ _) rfl ?_
  refine S_nil ?_
  refine X_seq ?_
  refine T_seq ?_
  refine T_region ?_
  refine S_val rfl rfl (Y_loadAI 0 (und rfl) rfl rfl rfl (siz rfl) (dl_length _ _ _)) ?_
  refine S_callV rfl rfl (bod rfl) (fun w hs => rof_any a _) rfl rfl ?_
  refine S_allocA (zer rfl) rfl rfl fun _ => ?_
  refine S_storeAI 4 (siz rfl) rfl rfl rfl rfl (dl_length _ _ _) rfl ?_
  refine S_nil ?_
  refine X_seq ?_
  refine T_seq ?_
  refine T_region ?_
  refine S_val rfl rfl (Y_build (und rfl) (siz rfl) (zer rfl) rfl rfl) ?_
  refine S_allocA (zer rfl) rfl rfl fun _ => ?_
  refine S_storeAI 5 (siz rfl) rfl rfl rfl rfl rfl rfl ?_
  refine S_nil ?_
  refine X_seq ?_
  refine T_seq ?_
  refine T_seq ?_
  refine T_region ?_
  refine S_val rfl rfl (Y_assign rfl) ?_
  refine S_nil ?_
  refine X_seq ?_
  refine T_block ?_
  rename_i b0 b1 b2 b3 b4 b5
  refine T_loop (α := Nat) (fun j => j ≤ 256)
    (fun j => [(2, .pointer (some ⟨b0, 0, none⟩)), (3, .pointer (some ⟨b1, 0, none⟩)), (4, .pointer (some ⟨b2, 0, none⟩)), (5, .pointer (some ⟨b3, 0, none⟩)), (6, .pointer (some ⟨b4, 0, none⟩)), (7, .pointer (some ⟨b5, 0, none⟩)), (8, .int .i64 j)])
    (fun j => [blk b0 (.cells (ints .u64 (dl 18446744073709551616 4 (a))) 24 (0, 0)), blk b1 (.cells (ints .u64 (dl 18446744073709551616 4 (n))) 24 (0, 0)), blk b2 (.cells (ints .u64 (List.replicate 4 0)) 24 (0, 0)), blk b3 (.cells (ints .i64 (dl 256 32 (n))) 36 (0, 0)), blk b4 (.cells (ints .i64 (dl 256 32 (expN a (2 ^ j)))) 36 (0, 0)), blk b5 (.cells (ints .i64 (dl 256 32 (expN a (n % 2 ^ j)))) 36 (0, 0))])
    (fun j => 256 - j) 0 (by omega) (by repeat (first | exact Env.sub_nil _ | (apply Env.sub_cons; rfl))) [] (by rw [e1]; unfold expN; rw [Nat.pow_zero, Nat.pow_one, Nat.mod_eq_of_lt ha]; rfl) ?_
  intro j hj
  by_cases h : j < 256
  · have m1 := fun w => rmul_any (expN a (2 ^ j)) (expN a (2 ^ j)) w
    rw [show expN a (2 ^ j) * expN a (2 ^ j) % 2 ^ 256 = expN a (2 ^ (j + 1)) by exact exp_dbl a j] at m1
    have hbn : bitN n (j : Int) = n / 2 ^ j % 2 := by unfold bitN; rw [if_pos (by omega), Int.toNat_natCast]
    have hms := mod_pow_succ' n 2 j
    rcases (show n / 2 ^ j % 2 = 1 ∨ n / 2 ^ j % 2 = 0 by omega) with hb | hb
    · rw [hb, Nat.one_mul] at hms
      have m2 := fun w => rmul_any (expN a (n % 2 ^ j)) (expN a (2 ^ j)) w
      rw [show expN a (n % 2 ^ j) * expN a (2 ^ j) % 2 ^ 256 = expN a (n % 2 ^ (j + 1)) by unfold expN; rw [← Nat.mul_mod, ← Nat.pow_add, hms]] at m2
      have hc : ((bitN n (j : Int) : Nat) : Int) = 1 := by rw [hbn, hb]; rfl
      refine T_seq ?_
      refine T_seq ?_
      refine T_region ?_
      refine S_val rfl rfl (Y_move rfl) ?_
      refine S_val rfl rfl (Y_lss_t rfl rfl (by omega)) ?_
      refine S_nil ?_
      refine X_seq ?_
      refine T_cond_true rfl ?_
      refine T_skip ?_
      refine X_seq ?_
      refine T_seq ?_
      refine T_block ?_
      refine T_seq ?_
      refine T_seq ?_
      refine T_region ?_
      refine S_val rfl rfl (Y_loadAI 3 (und rfl) rfl rfl rfl (siz rfl) (dl_length _ _ _)) ?_
      refine S_val rfl rfl (Y_move rfl) ?_
      refine S_callV rfl rfl (bod rfl) (fun w hs => rbit_any n j _) rfl rfl ?_
      refine S_val rfl rfl (Y_eql_t rfl rfl (by assumption)) ?_
      refine S_nil ?_
      refine X_seq ?_
      refine T_cond_true rfl ?_
      refine T_region ?_
      refine S_val rfl rfl (Y_loadAI 5 (und rfl) rfl rfl rfl (siz rfl) (dl_length _ _ _)) ?_
      refine S_val rfl rfl (Y_loadAI 4 (und rfl) rfl rfl rfl (siz rfl) (dl_length _ _ _)) ?_
      refine S_callV rfl rfl (bod rfl) (fun w hs => m2 _) rfl rfl ?_
      refine S_storeAI 5 (siz rfl) rfl rfl rfl (dl_length _ _ _) (dl_length _ _ _) rfl ?_
      refine S_nil ?_
      refine X_seq ?_
      refine T_region ?_
      refine S_val rfl rfl (Y_loadAI 4 (und rfl) rfl rfl rfl (siz rfl) (dl_length _ _ _)) ?_
      refine S_val rfl rfl (Y_loadAI 4 (und rfl) rfl rfl rfl (siz rfl) (dl_length _ _ _)) ?_
      refine S_callV rfl rfl (bod rfl) (fun w hs => m1 _) rfl rfl ?_
      refine S_storeAI 4 (siz rfl) rfl rfl rfl (dl_length _ _ _) (dl_length _ _ _) rfl ?_
      refine S_nil ?_
      refine X_blk ?_
      refine X_seq ?_
      refine T_region ?_
      refine S_val rfl rfl (Y_move rfl) ?_
      refine S_val rfl rfl (Y_addN rfl rfl (nat_cast _) (nat_lit' _) (by omega)) ?_
      refine S_val rfl rfl (Y_assign rfl) ?_
      refine S_nil ?_
      refine X_loop ?_
      exact ⟨j + 1, by omega, by omega, (by repeat (first | exact Env.sub_nil _ | (apply Env.sub_cons; rfl))), [], rfl⟩
    · rw [hb, Nat.zero_mul, Nat.add_zero] at hms
      have hc : ¬ ((bitN n (j : Int) : Nat) : Int) = 1 := by rw [hbn, hb]; decide
      refine T_seq ?_
      refine T_seq ?_
      refine T_region ?_
      refine S_val rfl rfl (Y_move rfl) ?_
      refine S_val rfl rfl (Y_lss_t rfl rfl (by omega)) ?_
      refine S_nil ?_
      refine X_seq ?_
      refine T_cond_true rfl ?_
      refine T_skip ?_
      refine X_seq ?_
      refine T_seq ?_
      refine T_block ?_
      refine T_seq ?_
      refine T_seq ?_
      refine T_region ?_
      refine S_val rfl rfl (Y_loadAI 3 (und rfl) rfl rfl rfl (siz rfl) (dl_length _ _ _)) ?_
      refine S_val rfl rfl (Y_move rfl) ?_
      refine S_callV rfl rfl (bod rfl) (fun w hs => rbit_any n j _) rfl rfl ?_
      refine S_val rfl rfl (Y_eql_f rfl rfl (by assumption)) ?_
      refine S_nil ?_
      refine X_seq ?_
      refine T_cond_false rfl ?_
      refine T_skip ?_
      refine X_seq ?_
      refine T_region ?_
      refine S_val rfl rfl (Y_loadAI 4 (und rfl) rfl rfl rfl (siz rfl) (dl_length _ _ _)) ?_
      refine S_val rfl rfl (Y_loadAI 4 (und rfl) rfl rfl rfl (siz rfl) (dl_length _ _ _)) ?_
      refine S_callV rfl rfl (bod rfl) (fun w hs => m1 _) rfl rfl ?_
      refine S_storeAI 4 (siz rfl) rfl rfl rfl (dl_length _ _ _) (dl_length _ _ _) rfl ?_
      refine S_nil ?_
      refine X_blk ?_
      refine X_seq ?_
      refine T_region ?_
      refine S_val rfl rfl (Y_move rfl) ?_
      refine S_val rfl rfl (Y_addN rfl rfl (nat_cast _) (nat_lit' _) (by omega)) ?_
      refine S_val rfl rfl (Y_assign rfl) ?_
      refine S_nil ?_
      refine X_loop ?_
      exact ⟨j + 1, by omega, by omega, (by repeat (first | exact Env.sub_nil _ | (apply Env.sub_cons; rfl))), [], by rw [hms]; rfl⟩
  · obtain rfl : j = 256 := by omega
    rw [Nat.mod_eq_of_lt hn]
    refine T_seq ?_
    refine T_seq ?_
    refine T_region ?_
    refine S_val rfl rfl (Y_move rfl) ?_
    refine S_val rfl rfl (Y_lss_f rfl rfl (by decide)) ?_
    refine S_nil ?_
    refine X_seq ?_
    refine T_cond_false rfl ?_
    refine T_exit ?_
    refine X_seq_exit ?_
    refine X_loop_exit ?_
    refine X_blk_hit rfl ?_
    refine X_seq ?_
    refine T_seq ?_
    refine T_region ?_
    refine S_val rfl rfl (Y_loadAI 5 (und rfl) rfl rfl rfl (siz rfl) (dl_length _ _ _)) ?_
    refine S_callV rfl rfl (bod rfl) (fun w hs => rword_any (expN a n) _) rfl rfl ?_
    refine S_storeAI 2 (siz rfl) rfl rfl rfl rfl (dl_length _ _ _) rfl ?_
    refine S_nil ?_
    refine X_seq ?_
    refine T_ret ?_
    ((first | refine X_fin_ret ?_ | refine X_fin ?_); exact ⟨[_], [], .cons (.agg 2 rfl (und rfl) rfl rfl (siz rfl)) .nil, Emb.nil _, rfl, rfl⟩)
end Go.Proofs.YtchoncjikdfbgaaGreat
