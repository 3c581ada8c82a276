import Derived.Test.YtchoncjikdfbgaaGreatWord3
/- The calls of the reference of layer 1, as numbers. -/
namespace Go.Proofs.YtchoncjikdfbgaaGreat
open Go.RowKit
set_option maxRecDepth 10000
set_option maxHeartbeats 4000000

theorem dig256_lt (x i : Nat) : x / 256 ^ i % 256 < 256 := Nat.mod_lt _ (by omega)
theorem byte_digit (x t e : Nat) (he : e < 8) : x / 18446744073709551616 ^ t % 18446744073709551616 / 256 ^ e % 256 = x / 256 ^ (8 * t + e) % 256 := by
  rw [show (18446744073709551616 : Nat) = 256 ^ 8 by decide, digit_mod 256 8 _ e he, Nat.div_div_eq_div_mul, ← Nat.pow_mul, ← Nat.pow_add]

theorem rof_any (x : Nat) (w : World) : Fn Tryz.prog 14 #[W x] w fun v N => v = D x ∧ N = [] := by
  refine Fn_of (args := [W x]) Tryz.func14 rfl Tryz.ntmps14 Tryz.results14 (by simp) ?_
  refine T_seq ?_
  refine T_region ?_
  refine S_boxA rfl rfl rfl fun _ => ?_
  refine S_allocA (zer rfl) rfl rfl fun _ => ?_
  refine S_nil ?_
  refine X_seq ?_
  refine T_seq ?_
  refine T_region ?_
  refine S_val rfl rfl (Y_build (und rfl) (siz rfl) (zer rfl) rfl rfl) ?_
  refine S_allocA (zer rfl) rfl rfl fun _ => ?_
  refine S_storeAI 2 (siz rfl) rfl rfl rfl rfl rfl rfl ?_
  refine S_nil ?_
  refine X_seq ?_
  refine T_seq ?_
  refine T_seq ?_
  refine T_region ?_
  refine S_val rfl rfl (Y_assign rfl) ?_
  refine S_nil ?_
  refine X_seq ?_
  refine T_block ?_
  rename_i b0 b1 b2
  refine T_loop (α := Nat × Nat) (fun a => a.1 ≤ 32 ∧ a.2 = x % 256 ^ a.1)
    (fun a => [(1, .pointer (some ⟨b0, 0, none⟩)), (2, .pointer (some ⟨b1, 0, none⟩)), (3, .pointer (some ⟨b2, 0, none⟩)), (4, .int .i64 a.1)])
    (fun a => [blk b0 (.cells (ints .u64 (dl 18446744073709551616 4 (x))) 24 (0, 0)), blk b1 (.cells (ints .i64 (List.replicate 32 0)) 36 (0, 0)), blk b2 (.cells (ints .i64 (dl 256 32 (a.2))) 36 (0, 0))])
    (fun a => 32 - a.1) (0, 0) (by simp [Nat.mod_one]) (by repeat (first | exact Env.sub_nil _ | (apply Env.sub_cons; rfl))) [] rfl ?_
  rintro ⟨i, s⟩ ⟨hi, hs⟩
  dsimp only at hi hs ⊢
  by_cases h : i < 32
  · have hd := digit_lt x (i / 8)
    refine T_seq ?_
    refine T_seq ?_
    refine T_region ?_
    refine S_val rfl rfl (Y_move rfl) ?_
    refine S_val rfl rfl (Y_lss_t rfl rfl (by omega)) ?_
    refine S_nil ?_
    refine X_seq ?_
    refine T_cond_true rfl ?_
    refine T_skip ?_
    refine X_seq ?_
    refine T_seq ?_
    refine T_block ?_
    refine T_region ?_
    refine S_val rfl rfl (Y_move rfl) ?_
    refine S_val rfl rfl (Y_move rfl) ?_
    refine S_val rfl rfl (Y_quoN rfl rfl (nat_cast _) (nat_lit' _) (Nat.succ_ne_zero _) (by first | with_reducible exact xi64 (by omega) | with_reducible exact x64 (by omega) | with_reducible exact x8 (by omega) | with_reducible exact x32 (by omega))) ?_
    refine S_val rfl rfl (Y_ixa (und rfl) (siz rfl) rfl rfl (nat_cast _) (by omega)) ?_
    refine S_val rfl rfl (Y_loadI 0 (und rfl) rfl rfl rfl (dl_get (by omega))) ?_
    refine S_val rfl rfl (Y_move rfl) ?_
    refine S_val rfl rfl (Y_remN rfl rfl (nat_cast _) (nat_lit' _) (Nat.succ_ne_zero _)) ?_
    refine S_val rfl rfl (Y_mulN rfl rfl (nat_lit' _) (nat_cast _) (by omega)) ?_
    refine S_val rfl rfl (Y_shrN rfl rfl (nat_cast _) (nat_cast _) (by simp only [IntKind.bits]; assumption)) ?_
    refine S_val rfl rfl (Y_remN rfl rfl (nat_cast _) (nat_lit' _) (Nat.succ_ne_zero _)) ?_
    refine S_val rfl rfl (Y_conv (und rfl) (und rfl) rfl (wi64 (by omega) (by omega))) ?_
    refine S_val rfl rfl (Y_ixa (und rfl) (siz rfl) rfl rfl (nat_cast _) (by assumption)) ?_
    refine S_storeI 2 (siz rfl) rfl rfl rfl (by simp; omega) rfl rfl ?_
    refine S_nil ?_
    refine X_blk ?_
    refine X_seq ?_
    refine T_region ?_
    refine S_val rfl rfl (Y_move rfl) ?_
    refine S_val rfl rfl (Y_addN rfl rfl (nat_cast _) (nat_lit' _) (by omega)) ?_
    refine S_val rfl rfl (Y_assign rfl) ?_
    refine S_nil ?_
    refine X_loop ?_
    refine ⟨(i + 1, x % 256 ^ (i + 1)), ⟨?_, rfl⟩, ?_, (by repeat (first | exact Env.sub_nil _ | (apply Env.sub_cons; rfl))), [], ?_⟩
    · dsimp only; omega
    · dsimp only; omega
    · have e : x / 18446744073709551616 ^ (i / 8) % 18446744073709551616 / 2 ^ (8 * (i % 8)) % 256 = x / 256 ^ i % 256 := by
        rw [Nat.pow_mul, show (2 : Nat) ^ 8 = 256 by decide, byte_digit x (i / 8) (i % 8) (by omega), show 8 * (i / 8) + i % 8 = i by omega]
      rw [e, dl_set (by omega) (by rw [hs]; exact Nat.mod_lt _ (Nat.pow_pos (by omega))) (dig256_lt x i), hs, ← mod_pow_succ']
      rfl
  · refine T_seq ?_
    refine T_seq ?_
    refine T_region ?_
    refine S_val rfl rfl (Y_move rfl) ?_
    refine S_val rfl rfl (Y_lss_f rfl rfl (by omega)) ?_
    refine S_nil ?_
    refine X_seq ?_
    refine T_cond_false rfl ?_
    refine T_exit ?_
    refine X_seq_exit ?_
    refine X_loop_exit ?_
    refine X_blk_hit rfl ?_
    refine X_seq ?_
    refine T_seq ?_
    refine T_region ?_
    refine S_val rfl rfl (Y_loadAI 2 (und rfl) rfl rfl rfl (siz rfl) (dl_length _ _ _)) ?_
    refine S_storeAI 1 (siz rfl) rfl rfl rfl rfl (dl_length _ _ _) rfl ?_
    refine S_nil ?_
    refine X_seq ?_
    refine T_ret ?_
    obtain rfl : i = 32 := by omega
    ((first | refine X_fin_ret ?_ | refine X_fin ?_); exact ⟨[_], [], .cons (.agg 1 rfl (und rfl) rfl rfl (siz rfl)) .nil, Emb.nil _, by rw [hs, show (256 : Nat) ^ 32 = 2 ^ 256 by decide]; exact D_mod x, rfl⟩)

/-- The parts of a word whose digits from j on are in. -/
def wst (x j : Nat) : List Int := (List.range 4).map fun t => ((x / 18446744073709551616 ^ t % 18446744073709551616 / 256 ^ (j - 8 * t) : Nat) : Int)
theorem wst_get (x j t : Nat) (h : t < 4) : (wst x j)[t]? = some ((x / 18446744073709551616 ^ t % 18446744073709551616 / 256 ^ (j - 8 * t) : Nat) : Int) := by simp [wst, h]
@[simp] theorem wst_length (x j : Nat) : (wst x j).length = 4 := by simp [wst]
theorem wst_32 (x : Nat) : wst x 32 = List.replicate 4 0 := by
  have h : ∀ t, t < 4 → x / 18446744073709551616 ^ t % 18446744073709551616 / 256 ^ (32 - 8 * t) = 0 := fun t ht => by
    have h1 := digit_lt x t
    have h2 : 256 ^ 8 ≤ 256 ^ (32 - 8 * t) := Nat.pow_le_pow_right (by omega) (by omega)
    exact Nat.div_eq_of_lt (by omega)
  unfold wst
  rw [List.map_congr_left (g := fun _ => (0 : Int)) fun t ht => by rw [h t (List.mem_range.1 ht)]; rfl]
  rfl
theorem wst_0 (x : Nat) : wst x 0 = dl 18446744073709551616 4 x := by
  unfold wst dl
  refine List.map_congr_left fun t _ => ?_
  rw [Nat.zero_sub, Nat.pow_zero, Nat.div_one]
theorem wst_step (x i : Nat) (_hi : i < 32) : x / 18446744073709551616 ^ (i / 8) % 18446744073709551616 / 256 ^ (i + 1 - 8 * (i / 8)) * 256 + x / 256 ^ i % 256 = x / 18446744073709551616 ^ (i / 8) % 18446744073709551616 / 256 ^ (i - 8 * (i / 8)) := by
  have h := byte_digit x (i / 8) (i % 8) (by omega)
  rw [show 8 * (i / 8) + i % 8 = i by omega] at h
  rw [← h, show i + 1 - 8 * (i / 8) = i % 8 + 1 by omega, show i - 8 * (i / 8) = i % 8 by omega, Nat.pow_succ, ← Nat.div_div_eq_div_mul]
  omega
theorem wst_set (x i : Nat) (_hi : i < 32) : (wst x (i + 1)).set (i / 8) ((x / 18446744073709551616 ^ (i / 8) % 18446744073709551616 / 256 ^ (i - 8 * (i / 8)) : Nat) : Int) = wst x i := by
  apply List.ext_getElem?
  intro t
  rw [List.getElem?_set, wst_length]
  by_cases ht : t < 4
  · rw [wst_get x _ t ht, wst_get x _ t ht]
    by_cases h1 : i / 8 = t
    · subst h1; simp [ht]
    · simp only [h1, if_false]
      rcases Nat.lt_or_ge (i / 8) t with h2 | h2
      · rw [show i + 1 - 8 * t = 0 by omega, show i - 8 * t = 0 by omega]
      · have h3 := digit_lt x t
        have h4 : 256 ^ 8 ≤ 256 ^ (i + 1 - 8 * t) := Nat.pow_le_pow_right (by omega) (by omega)
        have h5 : 256 ^ 8 ≤ 256 ^ (i - 8 * t) := Nat.pow_le_pow_right (by omega) (by omega)
        rw [Nat.div_eq_of_lt (by omega), Nat.div_eq_of_lt (by omega)]
  · have h1 : (wst x (i + 1))[t]? = none := List.getElem?_eq_none (by rw [wst_length]; omega)
    have h2 : (wst x i)[t]? = none := List.getElem?_eq_none (by rw [wst_length]; omega)
    rw [h1, h2]
    split
    · rename_i h; subst h; simp [ht]
    · rfl

theorem rword_any (x : Nat) (w : World) : Fn Tryz.prog 21 #[D x] w fun v N => v = W x ∧ N = [] := by
  refine Fn_of (args := [D x]) Tryz.func21 rfl Tryz.ntmps21 Tryz.results21 (by simp) ?_
  refine T_seq ?_
  refine T_region ?_
  refine S_boxA rfl rfl rfl fun _ => ?_
  refine S_allocA (zer rfl) rfl rfl fun _ => ?_
  refine S_nil ?_
  refine X_seq ?_
  refine T_seq ?_
  refine T_region ?_
  refine S_val rfl rfl (Y_build (und rfl) (siz rfl) (zer rfl) rfl rfl) ?_
  refine S_allocA (zer rfl) rfl rfl fun _ => ?_
  refine S_storeAI 2 (siz rfl) rfl rfl rfl rfl rfl rfl ?_
  refine S_nil ?_
  refine X_seq ?_
  refine T_seq ?_
  refine T_seq ?_
  refine T_region ?_
  refine S_val rfl rfl (Y_assign rfl) ?_
  refine S_nil ?_
  refine X_seq ?_
  refine T_block ?_
  rename_i b0 b1 b2
  refine T_loop (α := Nat) (fun j => j ≤ 32)
    (fun j => [(1, .pointer (some ⟨b0, 0, none⟩)), (2, .pointer (some ⟨b1, 0, none⟩)), (3, .pointer (some ⟨b2, 0, none⟩)), (4, .int .i64 ((j : Int) - 1))])
    (fun j => [blk b0 (.cells (ints .i64 (dl 256 32 (x))) 36 (0, 0)), blk b1 (.cells (ints .u64 (List.replicate 4 0)) 24 (0, 0)), blk b2 (.cells (ints .u64 (wst x j)) 24 (0, 0))])
    (fun j => j) 32 (by omega) (by repeat (first | exact Env.sub_nil _ | (apply Env.sub_cons; rfl))) [] (by rw [wst_32]; rfl) ?_
  intro j hj
  by_cases h : j = 0
  · subst h
    refine T_seq ?_
    refine T_seq ?_
    refine T_region ?_
    refine S_val rfl rfl (Y_move rfl) ?_
    refine S_val rfl rfl (Y_geq_f rfl rfl (by decide)) ?_
    refine S_nil ?_
    refine X_seq ?_
    refine T_cond_false rfl ?_
    refine T_exit ?_
    refine X_seq_exit ?_
    refine X_loop_exit ?_
    refine X_blk_hit rfl ?_
    refine X_seq ?_
    refine T_seq ?_
    refine T_region ?_
    refine S_val rfl rfl (Y_loadAI 2 (und rfl) rfl rfl rfl (siz rfl) rfl) ?_
    refine S_storeAI 1 (siz rfl) rfl rfl rfl rfl rfl rfl ?_
    refine S_nil ?_
    refine X_seq ?_
    refine T_ret ?_
    ((first | refine X_fin_ret ?_ | refine X_fin ?_); exact ⟨[_], [], .cons (.agg 1 rfl (und rfl) rfl rfl (siz rfl)) .nil, Emb.nil _, by rw [wst_0]; rfl, rfl⟩)
  · obtain ⟨i, rfl⟩ : ∃ i, j = i + 1 := ⟨j - 1, by omega⟩
    rw [show (((i + 1 : Nat) : Int) - 1) = (i : Int) by omega]
    have hd := dig256_lt x i
    have hg := wst_get x (i + 1) (i / 8) (by omega)
    have hs := wst_step x i (by omega)
    have hl : x / 18446744073709551616 ^ (i / 8) % 18446744073709551616 / 256 ^ (i - 8 * (i / 8)) < 18446744073709551616 := Nat.lt_of_le_of_lt (Nat.div_le_self _ _) (digit_lt x (i / 8))
    refine T_seq ?_
    refine T_seq ?_
    refine T_region ?_
    refine S_val rfl rfl (Y_move rfl) ?_
    refine S_val rfl rfl (Y_geq_t rfl rfl (by omega)) ?_
    refine S_nil ?_
    refine X_seq ?_
    refine T_cond_true rfl ?_
    refine T_skip ?_
    refine X_seq ?_
    refine T_seq ?_
    refine T_block ?_
    refine T_draw (by kernel_rfl) (by kernel_rfl) rfl ?_
    refine D0_val rfl rfl rfl (Y_move rfl) ?_
    refine D0_val rfl rfl rfl (Y_quoN rfl rfl (nat_cast _) (nat_lit' _) (Nat.succ_ne_zero _) (by first | with_reducible exact xi64 (by omega) | with_reducible exact x64 (by omega) | with_reducible exact x8 (by omega) | with_reducible exact x32 (by omega))) ?_
    refine D0_val rfl rfl rfl (Y_move rfl) ?_
    refine D0_val rfl rfl rfl (Y_quoN rfl rfl (nat_cast _) (nat_lit' _) (Nat.succ_ne_zero _) (by first | with_reducible exact xi64 (by omega) | with_reducible exact x64 (by omega) | with_reducible exact x8 (by omega) | with_reducible exact x32 (by omega))) ?_
    refine D0_val rfl rfl rfl (Y_ixa (und rfl) (siz rfl) rfl rfl (nat_cast _) (by omega)) ?_
    refine D0_valM rfl rfl rfl (Y_loadI 2 (und rfl) rfl rfl rfl (by assumption)) ?_
    refine D0_val rfl rfl rfl (Y_mulU rfl rfl (nat_cast _) (nat_lit' _) rfl (by simp only [IntKind.bits]; omega)) ?_
    refine D0_val rfl rfl rfl (Y_move rfl) ?_
    refine D0_val rfl rfl rfl (Y_ixa (und rfl) (siz rfl) rfl rfl (nat_cast _) (by assumption)) ?_
    refine D0_valM rfl rfl rfl (Y_loadI 0 (und rfl) rfl rfl rfl (dl_get (by assumption))) ?_
    refine D0_valM rfl rfl rfl (Y_conv (und rfl) (und rfl) rfl (wu64 (by omega) (by omega))) ?_
    refine D0_val rfl rfl rfl (Y_addU rfl rfl (nat_cast _) (nat_cast _) rfl (by simp only [IntKind.bits]; omega)) ?_
    refine D0_val rfl rfl rfl (Y_ixa (und rfl) (siz rfl) rfl rfl (nat_cast _) (by omega)) ?_
    refine D0_storeI 2 rfl (siz rfl) rfl rfl rfl (by simp; omega) rfl rfl ?_
    refine D0_nil ?_
    refine X_blk ?_
    refine X_seq ?_
    refine T_region ?_
    refine S_val rfl rfl (Y_move rfl) ?_
    refine S_val rfl rfl (Y_sub rfl rfl (wi64 (by omega) (by omega))) ?_
    refine S_val rfl rfl (Y_assign rfl) ?_
    refine S_nil ?_
    refine X_loop ?_
    refine ⟨i, by omega, by omega, (by repeat (first | exact Env.sub_nil _ | (apply Env.sub_cons; rfl))), [], ?_⟩
    rw [hs, wst_set x i (by omega)]
    rfl

theorem radd_any (x y : Nat) (w : World) : Fn Tryz.prog 53 #[D x, D y] w fun v N => v = D ((x + y) % 2 ^ 256) ∧ N = [] := by
  refine Fn_of (args := [D x, D y]) Tryz.func53 rfl Tryz.ntmps53 Tryz.results53 (by simp) ?_
  refine T_seq ?_
  refine T_region ?_
  refine S_boxA rfl rfl rfl fun _ => ?_
  refine S_boxA rfl rfl rfl fun _ => ?_
  refine S_allocA (zer rfl) rfl rfl fun _ => ?_
  refine S_nil ?_
  refine X_seq ?_
  refine T_seq ?_
  refine T_region ?_
  refine S_val rfl rfl (Y_build (und rfl) (siz rfl) (zer rfl) rfl rfl) ?_
  refine S_allocA (zer rfl) rfl rfl fun _ => ?_
  refine S_storeAI 3 (siz rfl) rfl rfl rfl rfl rfl rfl ?_
  refine S_nil ?_
  refine X_seq ?_
  refine T_seq ?_
  refine T_region ?_
  refine S_val rfl rfl (Y_assign rfl) ?_
  refine S_nil ?_
  refine X_seq ?_
  refine T_seq ?_
  refine T_seq ?_
  refine T_region ?_
  refine S_val rfl rfl (Y_assign rfl) ?_
  refine S_nil ?_
  refine X_seq ?_
  refine T_block ?_
  rename_i b0 b1 b2 b3
  refine T_loop (α := Nat × Nat × Nat) (fun a => a.1 ≤ 32 ∧ a.2.1 = (x % 256 ^ a.1 + y % 256 ^ a.1) / 256 ^ a.1 ∧ a.2.2 = (x % 256 ^ a.1 + y % 256 ^ a.1) % 256 ^ a.1)
    (fun a => [(2, .pointer (some ⟨b0, 0, none⟩)), (3, .pointer (some ⟨b1, 0, none⟩)), (4, .pointer (some ⟨b2, 0, none⟩)), (5, .pointer (some ⟨b3, 0, none⟩)), (6, .int .i64 a.2.1), (7, .int .i64 a.1)])
    (fun a => [blk b0 (.cells (ints .i64 (dl 256 32 (x))) 36 (0, 0)), blk b1 (.cells (ints .i64 (dl 256 32 (y))) 36 (0, 0)), blk b2 (.cells (ints .i64 (List.replicate 32 0)) 36 (0, 0)), blk b3 (.cells (ints .i64 (dl 256 32 (a.2.2))) 36 (0, 0))])
    (fun a => 32 - a.1) (0, 0, 0) (by simp [Nat.mod_one]) (by repeat (first | exact Env.sub_nil _ | (apply Env.sub_cons; rfl))) [] rfl ?_
  rintro ⟨i, c, s⟩ ⟨hi, hc, hs⟩
  dsimp only at hi hc hs ⊢
  obtain ⟨h1, h2⟩ := add_step 256 i x y (by omega)
  rw [← hc] at h1 h2
  rw [← hs] at h1
  have hP : 0 < 256 ^ i := Nat.pow_pos (by omega)
  have hs' : s < 256 ^ i := by rw [hs]; exact Nat.mod_lt _ hP
  have hc' : c ≤ 1 := by
    have := Nat.mod_lt x hP
    have := Nat.mod_lt y hP
    rw [hc]
    exact Nat.le_of_lt_succ (Nat.div_lt_of_lt_mul (by omega))
  have hx := dig256_lt x i
  have hy := dig256_lt y i
  by_cases h : i < 32
  · refine T_seq ?_
    refine T_seq ?_
    refine T_region ?_
    refine S_val rfl rfl (Y_move rfl) ?_
    refine S_val rfl rfl (Y_lss_t rfl rfl (by omega)) ?_
    refine S_nil ?_
    refine X_seq ?_
    refine T_cond_true rfl ?_
    refine T_skip ?_
    refine X_seq ?_
    refine T_seq ?_
    refine T_block ?_
    refine T_seq ?_
    refine T_draw (by kernel_rfl) (by kernel_rfl) rfl ?_
    refine D0_val rfl rfl rfl (Y_move rfl) ?_
    refine D0_val rfl rfl rfl (Y_ixa (und rfl) (siz rfl) rfl rfl (nat_cast _) (by assumption)) ?_
    refine D0_valM rfl rfl rfl (Y_loadI 0 (und rfl) rfl rfl rfl (dl_get (by assumption))) ?_
    refine D0_val rfl rfl rfl (Y_move rfl) ?_
    refine D0_val rfl rfl rfl (Y_ixa (und rfl) (siz rfl) rfl rfl (nat_cast _) (by assumption)) ?_
    refine D0_valM rfl rfl rfl (Y_loadI 1 (und rfl) rfl rfl rfl (dl_get (by assumption))) ?_
    refine D0_val rfl rfl rfl (Y_addN rfl rfl (nat_cast _) (nat_cast _) (by omega)) ?_
    refine D0_val rfl rfl rfl (Y_move rfl) ?_
    refine D0_val rfl rfl rfl (Y_addN rfl rfl (nat_cast _) (nat_cast _) (by omega)) ?_
    refine D0_val rfl rfl rfl (Y_assign rfl) ?_
    refine D0_nil ?_
    refine X_seq ?_
    refine T_seq ?_
    refine T_region ?_
    refine S_val rfl rfl (Y_move rfl) ?_
    refine S_val rfl rfl (Y_move rfl) ?_
    refine S_val rfl rfl (Y_remN rfl rfl (nat_cast _) (nat_lit' _) (Nat.succ_ne_zero _)) ?_
    refine S_val rfl rfl (Y_ixa (und rfl) (siz rfl) rfl rfl (nat_cast _) (by assumption)) ?_
    refine S_storeI 3 (siz rfl) rfl rfl rfl (by simp; omega) rfl rfl ?_
    refine S_nil ?_
    refine X_seq ?_
    refine T_region ?_
    refine S_val rfl rfl (Y_move rfl) ?_
    refine S_val rfl rfl (Y_quoN rfl rfl (nat_cast _) (nat_lit' _) (Nat.succ_ne_zero _) (by first | with_reducible exact xi64 (by omega) | with_reducible exact x64 (by omega) | with_reducible exact x8 (by omega) | with_reducible exact x32 (by omega))) ?_
    refine S_val rfl rfl (Y_assign rfl) ?_
    refine S_nil ?_
    refine X_blk ?_
    refine X_seq ?_
    refine T_region ?_
    refine S_val rfl rfl (Y_move rfl) ?_
    refine S_val rfl rfl (Y_addN rfl rfl (nat_cast _) (nat_lit' _) (by omega)) ?_
    refine S_val rfl rfl (Y_assign rfl) ?_
    refine S_nil ?_
    refine X_loop ?_
    refine ⟨(i + 1, _, _), ⟨by dsimp only; omega, h2.symm, h1.symm⟩, by dsimp only; omega, (by repeat (first | exact Env.sub_nil _ | (apply Env.sub_cons; rfl))), [], ?_⟩
    rw [dl_set (by omega) hs' (Nat.mod_lt _ (by omega))]
    rfl
  · refine T_seq ?_
    refine T_seq ?_
    refine T_region ?_
    refine S_val rfl rfl (Y_move rfl) ?_
    refine S_val rfl rfl (Y_lss_f rfl rfl (by omega)) ?_
    refine S_nil ?_
    refine X_seq ?_
    refine T_cond_false rfl ?_
    refine T_exit ?_
    refine X_seq_exit ?_
    refine X_loop_exit ?_
    refine X_blk_hit rfl ?_
    refine X_seq ?_
    refine T_seq ?_
    refine T_region ?_
    refine S_val rfl rfl (Y_loadAI 3 (und rfl) rfl rfl rfl (siz rfl) (dl_length _ _ _)) ?_
    refine S_storeAI 2 (siz rfl) rfl rfl rfl rfl (dl_length _ _ _) rfl ?_
    refine S_nil ?_
    refine X_seq ?_
    refine T_ret ?_
    obtain rfl : i = 32 := by omega
    ((first | refine X_fin_ret ?_ | refine X_fin ?_); exact ⟨[_], [], .cons (.agg 2 rfl (und rfl) rfl rfl (siz rfl)) .nil, Emb.nil _, by rw [hs, ← Nat.add_mod, show (256 : Nat) ^ 32 = 2 ^ 256 by decide]; rfl, rfl⟩)

theorem rneg_any (x : Nat) (hx : x < 2 ^ 256) (w : World) : Fn Tryz.prog 15 #[D x] w fun v N => v = D ((2 ^ 256 - x) % 2 ^ 256) ∧ N = [] := by
  refine Fn_of (args := [D x]) Tryz.func15 rfl Tryz.ntmps15 Tryz.results15 (by simp) ?_
  refine T_seq ?_
  refine T_region ?_
  refine S_boxA rfl rfl rfl fun _ => ?_
  refine S_allocA (zer rfl) rfl rfl fun _ => ?_
  refine S_nil ?_
  refine X_seq ?_
  refine T_seq ?_
  refine T_region ?_
  refine S_val rfl rfl (Y_build (und rfl) (siz rfl) (zer rfl) rfl rfl) ?_
  refine S_allocA (zer rfl) rfl rfl fun _ => ?_
  refine S_storeAI 2 (siz rfl) rfl rfl rfl rfl rfl rfl ?_
  refine S_nil ?_
  refine X_seq ?_
  refine T_seq ?_
  refine T_seq ?_
  refine T_region ?_
  refine S_val rfl rfl (Y_assign rfl) ?_
  refine S_nil ?_
  refine X_seq ?_
  refine T_block ?_
  rename_i b0 b1 b2
  refine T_loop (α := Nat × Nat) (fun a => a.1 ≤ 32 ∧ a.2 = 256 ^ a.1 - 1 - x % 256 ^ a.1)
    (fun a => [(1, .pointer (some ⟨b0, 0, none⟩)), (2, .pointer (some ⟨b1, 0, none⟩)), (3, .pointer (some ⟨b2, 0, none⟩)), (4, .int .i64 a.1)])
    (fun a => [blk b0 (.cells (ints .i64 (dl 256 32 (x))) 36 (0, 0)), blk b1 (.cells (ints .i64 (List.replicate 32 0)) 36 (0, 0)), blk b2 (.cells (ints .i64 (dl 256 32 (a.2))) 36 (0, 0))])
    (fun a => 32 - a.1) (0, 0) (by simp) (by repeat (first | exact Env.sub_nil _ | (apply Env.sub_cons; rfl))) [] rfl ?_
  rintro ⟨i, s⟩ ⟨hi, hs⟩
  dsimp only at hi hs ⊢
  have hd := dig256_lt x i
  have hP : 0 < 256 ^ i := Nat.pow_pos (by omega)
  have hm := Nat.mod_lt x hP
  by_cases h : i < 32
  · refine T_seq ?_
    refine T_seq ?_
    refine T_region ?_
    refine S_val rfl rfl (Y_move rfl) ?_
    refine S_val rfl rfl (Y_lss_t rfl rfl (by omega)) ?_
    refine S_nil ?_
    refine X_seq ?_
    refine T_cond_true rfl ?_
    refine T_skip ?_
    refine X_seq ?_
    refine T_seq ?_
    refine T_block ?_
    refine T_region ?_
    refine S_val rfl rfl (Y_move rfl) ?_
    refine S_val rfl rfl (Y_move rfl) ?_
    refine S_val rfl rfl (Y_ixa (und rfl) (siz rfl) rfl rfl (nat_cast _) (by assumption)) ?_
    refine S_val rfl rfl (Y_loadI 0 (und rfl) rfl rfl rfl (dl_get (by assumption))) ?_
    refine S_val rfl rfl (Y_subN rfl rfl (nat_lit' _) (nat_cast _) (by omega) (Nat.le_of_ble_eq_true rfl)) ?_
    refine S_val rfl rfl (Y_ixa (und rfl) (siz rfl) rfl rfl (nat_cast _) (by assumption)) ?_
    refine S_storeI 2 (siz rfl) rfl rfl rfl (by simp; omega) rfl rfl ?_
    refine S_nil ?_
    refine X_blk ?_
    refine X_seq ?_
    refine T_region ?_
    refine S_val rfl rfl (Y_move rfl) ?_
    refine S_val rfl rfl (Y_addN rfl rfl (nat_cast _) (nat_lit' _) (by omega)) ?_
    refine S_val rfl rfl (Y_assign rfl) ?_
    refine S_nil ?_
    refine X_loop ?_
    refine ⟨(i + 1, s + (255 - x / 256 ^ i % 256) * 256 ^ i), ⟨by dsimp only; omega, ?_⟩, by dsimp only; omega, (by repeat (first | exact Env.sub_nil _ | (apply Env.sub_cons; rfl))), [], ?_⟩
    · dsimp only
      rw [hs, mod_pow_succ', Nat.pow_succ, Nat.sub_mul]
      have := Nat.mul_le_mul_right (256 ^ i) (show x / 256 ^ i % 256 ≤ 255 by omega)
      omega
    · rw [dl_set (by omega) (by omega) (show 255 - x / 256 ^ i % 256 < 256 by omega)]
      rfl
  · refine T_seq ?_
    refine T_seq ?_
    refine T_region ?_
    refine S_val rfl rfl (Y_move rfl) ?_
    refine S_val rfl rfl (Y_lss_f rfl rfl (by omega)) ?_
    refine S_nil ?_
    refine X_seq ?_
    refine T_cond_false rfl ?_
    refine T_exit ?_
    refine X_seq_exit ?_
    refine X_loop_exit ?_
    refine X_blk_hit rfl ?_
    refine X_seq ?_
    refine T_seq ?_
    refine T_region ?_
    refine S_val rfl rfl (Y_loadAI 2 (und rfl) rfl rfl rfl (siz rfl) (dl_length _ _ _)) ?_
    refine S_val rfl rfl (Y_build (und rfl) (siz rfl) (zer rfl) rfl rfl) ?_
    obtain rfl : i = 32 := by omega
    rw [show (256 : Nat) ^ 32 = 2 ^ 256 by decide, Nat.mod_eq_of_lt hx] at hs
    refine S_callV rfl rfl (bod rfl) (fun w hs => radd_any s 1 _) rfl rfl ?_
    refine S_storeAI 1 (siz rfl) rfl rfl rfl rfl (dl_length _ _ _) rfl ?_
    refine S_nil ?_
    refine X_seq ?_
    refine T_ret ?_
    ((first | refine X_fin_ret ?_ | refine X_fin ?_); exact ⟨[_], [], .cons (.agg 1 rfl (und rfl) rfl rfl (siz rfl)) .nil, Emb.nil _, by rw [show s + 1 = 2 ^ 256 - x by omega]; rfl, rfl⟩)

theorem rsub_any (x y : Nat) (hy : y < 2 ^ 256) (w : World) : Fn Tryz.prog 55 #[D x, D y] w fun v N => v = D ((x + 2 ^ 256 - y) % 2 ^ 256) ∧ N = [] := by
  refine Fn_of (args := [D x, D y]) Tryz.func55 rfl Tryz.ntmps55 Tryz.results55 (by simp) ?_
  refine T_seq ?_
  refine T_region ?_
  refine S_boxA rfl rfl rfl fun _ => ?_
  refine S_boxA rfl rfl rfl fun _ => ?_
  refine S_allocA (zer rfl) rfl rfl fun _ => ?_
  refine S_nil ?_
  refine X_seq ?_
  refine T_seq ?_
  refine T_draw (by kernel_rfl) (by kernel_rfl) rfl ?_
  refine D0_valM rfl rfl rfl (Y_loadAI 0 (und rfl) rfl rfl rfl (siz rfl) (dl_length _ _ _)) ?_
  refine D0_valM rfl rfl rfl (Y_loadAI 1 (und rfl) rfl rfl rfl (siz rfl) (dl_length _ _ _)) ?_
  refine D0_callV rfl rfl (bod rfl) (fun w hs => rneg_any y hy _) rfl rfl ?_
  skip
  refine D0_callV rfl rfl (bod rfl) (fun w hs => radd_any x ((2 ^ 256 - y) % 2 ^ 256) _) rfl rfl ?_
  refine D0_storeAI 2 rfl (siz rfl) rfl rfl rfl rfl (dl_length _ _ _) rfl ?_
  refine D0_nil ?_
  refine X_seq ?_
  refine T_ret ?_
  ((first | refine X_fin_ret ?_ | refine X_fin ?_); exact ⟨[_], [], .cons (.agg 2 rfl (und rfl) rfl rfl (siz rfl)) .nil, Emb.nil _, by rw [Nat.add_mod_mod, show x + (2 ^ 256 - y) = x + 2 ^ 256 - y by omega]; rfl, rfl⟩)

theorem rmul_any (x y : Nat) (w : World) : Fn Tryz.prog 54 #[D x, D y] w fun v N => v = D (x * y % 2 ^ 256) ∧ N = [] := by
  refine Fn_of (args := [D x, D y]) Tryz.func54 rfl Tryz.ntmps54 Tryz.results54 (by simp) ?_
  refine T_seq ?_
  refine T_region ?_
  refine S_boxA rfl rfl rfl fun _ => ?_
  refine S_boxA rfl rfl rfl fun _ => ?_
  refine S_allocA (zer rfl) rfl rfl fun _ => ?_
  refine S_nil ?_
  refine X_seq ?_
  refine T_seq ?_
  refine T_region ?_
  refine S_val rfl rfl (Y_build (und rfl) (siz rfl) (zer rfl) rfl rfl) ?_
  refine S_allocA (zer rfl) rfl rfl fun _ => ?_
  refine S_storeAI 3 (siz rfl) rfl rfl rfl rfl rfl rfl ?_
  refine S_nil ?_
  refine X_seq ?_
  refine T_seq ?_
  refine T_seq ?_
  refine T_region ?_
  refine S_val rfl rfl (Y_assign rfl) ?_
  refine S_nil ?_
  refine X_seq ?_
  refine T_block ?_
  rename_i b0 b1 b2 b3
  refine T_loop (α := Nat × Nat) (fun a => a.1 ≤ 32 ∧ a.2 % 256 ^ 32 = x % 256 ^ a.1 * y % 256 ^ 32)
    (fun a => [(2, .pointer (some ⟨b0, 0, none⟩)), (3, .pointer (some ⟨b1, 0, none⟩)), (4, .pointer (some ⟨b2, 0, none⟩)), (5, .pointer (some ⟨b3, 0, none⟩)), (6, .int .i64 a.1)])
    (fun a => [blk b0 (.cells (ints .i64 (dl 256 32 (x))) 36 (0, 0)), blk b1 (.cells (ints .i64 (dl 256 32 (y))) 36 (0, 0)), blk b2 (.cells (ints .i64 (List.replicate 32 0)) 36 (0, 0)), blk b3 (.cells (ints .i64 (dl 256 32 (a.2))) 36 (0, 0))])
    (fun a => 32 - a.1) (0, 0) (by simp [Nat.mod_one]) (by repeat (first | exact Env.sub_nil _ | (apply Env.sub_cons; rfl))) [] rfl ?_
  rintro ⟨i, o⟩ ⟨hi, ho⟩
  dsimp only at hi ho ⊢
  by_cases h : i < 32
  · refine T_seq ?_
    refine T_seq ?_
    refine T_region ?_
    refine S_val rfl rfl (Y_move rfl) ?_
    refine S_val rfl rfl (Y_lss_t rfl rfl (by omega)) ?_
    refine S_nil ?_
    refine X_seq ?_
    refine T_cond_true rfl ?_
    refine T_skip ?_
    refine X_seq ?_
    refine T_seq ?_
    refine T_block ?_
    refine T_seq ?_
    refine T_region ?_
    refine S_val rfl rfl (Y_assign rfl) ?_
    refine S_nil ?_
    refine X_seq ?_
    refine T_seq ?_
    refine T_region ?_
    refine S_val rfl rfl (Y_assign rfl) ?_
    refine S_nil ?_
    refine X_seq ?_
    refine T_block ?_
    refine T_loop (α := Nat × Nat × Nat) (fun a => a.1 ≤ 32 - i ∧ a.2.1 < 256 ∧ a.2.2 + a.2.1 * 256 ^ (i + a.1) = o + x / 256 ^ i % 256 * (y % 256 ^ a.1) * 256 ^ i)
      (fun a => [(2, .pointer (some ⟨b0, 0, none⟩)), (3, .pointer (some ⟨b1, 0, none⟩)), (4, .pointer (some ⟨b2, 0, none⟩)), (5, .pointer (some ⟨b3, 0, none⟩)), (6, .int .i64 i), (7, .int .i64 a.2.1), (8, .int .i64 a.1)])
      (fun a => [blk b0 (.cells (ints .i64 (dl 256 32 (x))) 36 (0, 0)), blk b1 (.cells (ints .i64 (dl 256 32 (y))) 36 (0, 0)), blk b2 (.cells (ints .i64 (List.replicate 32 0)) 36 (0, 0)), blk b3 (.cells (ints .i64 (dl 256 32 (a.2.2))) 36 (0, 0))])
      (fun a => 32 - a.1) (0, 0, o) (by simp [Nat.mod_one]) (by repeat (first | exact Env.sub_nil _ | (apply Env.sub_cons; rfl))) [] rfl ?_
    rintro ⟨j, c, p⟩ ⟨hj, hc, hp⟩
    dsimp only at hj hc hp ⊢
    have hxi := dig256_lt x i
    have hyj := dig256_lt y j
    have hpj := dig256_lt p (i + j)
    have hxy : x / 256 ^ i % 256 * (y / 256 ^ j % 256) ≤ 255 * 255 := Nat.mul_le_mul (by omega) (by omega)
    by_cases h2 : i + j < 32
    · refine T_seq ?_
      refine T_seq ?_
      refine T_region ?_
      refine S_val rfl rfl (Y_move rfl) ?_
      refine S_val rfl rfl (Y_move rfl) ?_
      refine S_val rfl rfl (Y_addN rfl rfl (nat_cast _) (nat_cast _) (by omega)) ?_
      refine S_val rfl rfl (Y_lss_t rfl rfl (by omega)) ?_
      refine S_nil ?_
      refine X_seq ?_
      refine T_cond_true rfl ?_
      refine T_skip ?_
      refine X_seq ?_
      refine T_seq ?_
      refine T_block ?_
      refine T_seq ?_
      refine T_draw (by kernel_rfl) (by kernel_rfl) rfl ?_
      refine D0_val rfl rfl rfl (Y_move rfl) ?_
      refine D0_val rfl rfl rfl (Y_move rfl) ?_
      refine D0_val rfl rfl rfl (Y_addN rfl rfl (nat_cast _) (nat_cast _) (by omega)) ?_
      refine D0_val rfl rfl rfl (Y_ixa (und rfl) (siz rfl) rfl rfl (nat_cast _) (by assumption)) ?_
      refine D0_valM rfl rfl rfl (Y_loadI 3 (und rfl) rfl rfl rfl (dl_get (by assumption))) ?_
      refine D0_val rfl rfl rfl (Y_move rfl) ?_
      refine D0_val rfl rfl rfl (Y_ixa (und rfl) (siz rfl) rfl rfl (nat_cast _) (by assumption)) ?_
      refine D0_valM rfl rfl rfl (Y_loadI 0 (und rfl) rfl rfl rfl (dl_get (by assumption))) ?_
      refine D0_val rfl rfl rfl (Y_move rfl) ?_
      refine D0_val rfl rfl rfl (Y_ixa (und rfl) (siz rfl) rfl rfl (nat_cast _) (by omega)) ?_
      refine D0_valM rfl rfl rfl (Y_loadI 1 (und rfl) rfl rfl rfl (dl_get (by omega))) ?_
      refine D0_val rfl rfl rfl (Y_mulN rfl rfl (nat_cast _) (nat_cast _) (by omega)) ?_
      refine D0_val rfl rfl rfl (Y_addN rfl rfl (nat_cast _) (nat_cast _) (by omega)) ?_
      refine D0_val rfl rfl rfl (Y_move rfl) ?_
      refine D0_val rfl rfl rfl (Y_addN rfl rfl (nat_cast _) (nat_cast _) (by omega)) ?_
      refine D0_val rfl rfl rfl (Y_assign rfl) ?_
      refine D0_nil ?_
      refine X_seq ?_
      refine T_seq ?_
      refine T_region ?_
      refine S_val rfl rfl (Y_move rfl) ?_
      refine S_val rfl rfl (Y_move rfl) ?_
      refine S_val rfl rfl (Y_addN rfl rfl (nat_cast _) (nat_cast _) (by omega)) ?_
      refine S_val rfl rfl (Y_move rfl) ?_
      refine S_val rfl rfl (Y_remN rfl rfl (nat_cast _) (nat_lit' _) (Nat.succ_ne_zero _)) ?_
      refine S_val rfl rfl (Y_ixa (und rfl) (siz rfl) rfl rfl (nat_cast _) (by assumption)) ?_
      refine S_storeI 3 (siz rfl) rfl rfl rfl (by simp; omega) rfl rfl ?_
      refine S_nil ?_
      refine X_seq ?_
      refine T_region ?_
      refine S_val rfl rfl (Y_move rfl) ?_
      refine S_val rfl rfl (Y_quoN rfl rfl (nat_cast _) (nat_lit' _) (Nat.succ_ne_zero _) (by first | with_reducible exact xi64 (by omega) | with_reducible exact x64 (by omega) | with_reducible exact x8 (by omega) | with_reducible exact x32 (by omega))) ?_
      refine S_val rfl rfl (Y_assign rfl) ?_
      refine S_nil ?_
      refine X_blk ?_
      refine X_seq ?_
      refine T_region ?_
      refine S_val rfl rfl (Y_move rfl) ?_
      refine S_val rfl rfl (Y_addN rfl rfl (nat_cast _) (nat_lit' _) (by omega)) ?_
      refine S_val rfl rfl (Y_assign rfl) ?_
      refine S_nil ?_
      refine X_loop ?_
      refine ⟨(j + 1, _, _), ⟨?_, ?_, ?_⟩, ?_, (by repeat (first | exact Env.sub_nil _ | (apply Env.sub_cons; rfl))), [], by rw [dl_put (by omega) (Nat.mod_lt _ (by omega))]; rfl⟩
      · dsimp only; omega
      · dsimp only; omega
      · dsimp only
        have hs := split_at 256 (i + j) p
        have hy2 := mod_pow_succ' y 256 j
        rw [hy2]
        generalize x / 256 ^ i % 256 = xi at *
        generalize y / 256 ^ j % 256 = yj at *
        generalize p / 256 ^ (i + j) % 256 = pj at *
        have hP : (256 : Nat) ^ (i + (j + 1)) = 256 * 256 ^ (i + j) := by rw [← Nat.add_assoc, Nat.pow_succ, Nat.mul_comm]
        have hQ : xi * (y % 256 ^ j + yj * 256 ^ j) * 256 ^ i = xi * (y % 256 ^ j) * 256 ^ i + xi * yj * 256 ^ (i + j) := by
          rw [Nat.mul_add, Nat.add_mul, ← Nat.mul_assoc xi yj, Nat.mul_assoc (xi * yj), ← Nat.pow_add, Nat.add_comm j i]
        rw [hP, hQ, ← Nat.mul_assoc]
        generalize xi * yj = m at *
        generalize hl : (pj + m + c) % 256 = l2
        generalize hcc : (pj + m + c) / 256 = c2
        have key : l2 + c2 * 256 = m + pj + c := by omega
        have k2 := congrArg (· * 256 ^ (i + j)) key
        simp only [Nat.add_mul] at k2
        omega
      · dsimp only; omega
    · refine T_seq ?_
      refine T_seq ?_
      refine T_region ?_
      refine S_val rfl rfl (Y_move rfl) ?_
      refine S_val rfl rfl (Y_move rfl) ?_
      refine S_val rfl rfl (Y_addN rfl rfl (nat_cast _) (nat_cast _) (by omega)) ?_
      refine S_val rfl rfl (Y_lss_f rfl rfl (by omega)) ?_
      refine S_nil ?_
      refine X_seq ?_
      refine T_cond_false rfl ?_
      refine T_exit ?_
      refine X_seq_exit ?_
      refine X_loop_exit ?_
      refine X_blk_hit rfl ?_
      refine X_blk ?_
      refine X_seq ?_
      refine T_region ?_
      refine S_val rfl rfl (Y_move rfl) ?_
      refine S_val rfl rfl (Y_addN rfl rfl (nat_cast _) (nat_lit' _) (by omega)) ?_
      refine S_val rfl rfl (Y_assign rfl) ?_
      refine S_nil ?_
      obtain rfl : j = 32 - i := by omega
      refine X_loop ?_
      refine ⟨(i + 1, p), ⟨?_, ?_⟩, ?_, (by repeat (first | exact Env.sub_nil _ | (apply Env.sub_cons; rfl))), [], rfl⟩
      · dsimp only; omega
      · dsimp only
        rw [← mul_outer 256 32 i x y o hi ho, ← hp, show i + (32 - i) = 32 by omega, Nat.add_mul_mod_self_right]
      · dsimp only; omega
  · refine T_seq ?_
    refine T_seq ?_
    refine T_region ?_
    refine S_val rfl rfl (Y_move rfl) ?_
    refine S_val rfl rfl (Y_lss_f rfl rfl (by omega)) ?_
    refine S_nil ?_
    refine X_seq ?_
    refine T_cond_false rfl ?_
    refine T_exit ?_
    refine X_seq_exit ?_
    refine X_loop_exit ?_
    refine X_blk_hit rfl ?_
    refine X_seq ?_
    refine T_seq ?_
    refine T_region ?_
    refine S_val rfl rfl (Y_loadAI 3 (und rfl) rfl rfl rfl (siz rfl) (dl_length _ _ _)) ?_
    refine S_storeAI 2 (siz rfl) rfl rfl rfl rfl (dl_length _ _ _) rfl ?_
    refine S_nil ?_
    refine X_seq ?_
    refine T_ret ?_
    obtain rfl : i = 32 := by omega
    ((first | refine X_fin_ret ?_ | refine X_fin ?_); exact ⟨[_], [], .cons (.agg 2 rfl (und rfl) rfl rfl (siz rfl)) .nil, Emb.nil _, by
          show D o = _
          unfold D
          rw [dl_eqmod (y := x * y % 2 ^ 256)]
          rw [ho, show 256 ^ 32 = 2 ^ 256 by decide, Nat.mod_mod, Nat.mul_mod, Nat.mod_mod, ← Nat.mul_mod], rfl⟩)
end Go.Proofs.YtchoncjikdfbgaaGreat
