import Derived.Test.YtchoncjikdfbgaaDoorWord1
/- The calls of package word: the second half. -/
namespace Go.Proofs.YtchoncjikdfbgaaDoor
open Go.RowKit
set_option maxRecDepth 10000
set_option maxHeartbeats 4000000

theorem small_any (x : Nat) (hx : x < 2 ^ 256) (w : World) : Fn Tryd.prog 24 #[W x] w fun v N => v = .tuple #[.int .u64 ((if x < 18446744073709551616 then x else 0 : Nat) : Int), .bool (decide (x < 18446744073709551616))] ∧ N = [] := by
  have hor : (x / 18446744073709551616 ^ 1 % 18446744073709551616 ||| x / 18446744073709551616 ^ 2 % 18446744073709551616) < 18446744073709551616 := Nat.or_lt_two_pow (n := 64) (digit_lt x 1) (digit_lt x 2)
  by_cases h : x < 18446744073709551616
  · have h1 : x / 18446744073709551616 ^ 1 = 0 := Nat.div_eq_of_lt (by omega)
    have h2 : x / 18446744073709551616 ^ 2 = 0 := Nat.div_eq_of_lt (by omega)
    have h3 : x / 18446744073709551616 ^ 3 = 0 := Nat.div_eq_of_lt (by omega)
    have hz : (x / 18446744073709551616 ^ 1 % 18446744073709551616 ||| x / 18446744073709551616 ^ 2 % 18446744073709551616 ||| x / 18446744073709551616 ^ 3 % 18446744073709551616) = 0 := by
      rw [h1, h2, h3]; rfl
    have hzi : ¬ (((x / 18446744073709551616 ^ 1 % 18446744073709551616 ||| x / 18446744073709551616 ^ 2 % 18446744073709551616 ||| x / 18446744073709551616 ^ 3 % 18446744073709551616 : Nat) : Int) ≠ 0) := by
      rw [hz]; simp
    refine Fn_of (args := [W x]) Tryd.func24 rfl Tryd.ntmps24 Tryd.results24 (by simp) ?_
    refine T_seq ?_
    refine T_region ?_
    refine S_boxA rfl rfl rfl fun _ => ?_
    refine S_val rfl rfl (Y_assign rfl) ?_
    refine S_val rfl rfl (Y_assign rfl) ?_
    refine S_nil ?_
    refine X_seq ?_
    refine T_seq ?_
    refine T_seq ?_
    refine T_region ?_
    refine S_val rfl rfl (Y_ixa (und rfl) (siz rfl) rfl rfl (nat_lit' _) (Nat.le_of_ble_eq_true rfl)) ?_
    refine S_val rfl rfl (Y_loadI 0 (und rfl) rfl rfl rfl (dl_get (Nat.le_of_ble_eq_true rfl))) ?_
    refine S_val rfl rfl (Y_ixa (und rfl) (siz rfl) rfl rfl (nat_lit' _) (Nat.le_of_ble_eq_true rfl)) ?_
    refine S_val rfl rfl (Y_loadI 0 (und rfl) rfl rfl rfl (dl_get (Nat.le_of_ble_eq_true rfl))) ?_
    refine S_val rfl rfl (Y_or rfl rfl (nat_cast _) (nat_cast _) rfl (by simp only [IntKind.bits]; omega) (by simp only [IntKind.bits]; omega)) ?_
    refine S_val rfl rfl (Y_ixa (und rfl) (siz rfl) rfl rfl (nat_lit' _) (Nat.le_of_ble_eq_true rfl)) ?_
    refine S_val rfl rfl (Y_loadI 0 (und rfl) rfl rfl rfl (dl_get (Nat.le_of_ble_eq_true rfl))) ?_
    refine S_val rfl rfl (Y_or rfl rfl (nat_cast _) (nat_cast _) rfl (by simp only [IntKind.bits]; assumption) (by simp only [IntKind.bits]; omega)) ?_
    refine S_val rfl rfl (Y_neq_f rfl rfl (by assumption)) ?_
    refine S_nil ?_
    refine X_seq ?_
    refine T_cond_false rfl ?_
    refine T_skip ?_
    refine X_seq ?_
    refine T_seq ?_
    refine T_region ?_
    refine S_val rfl rfl (Y_ixa (und rfl) (siz rfl) rfl rfl (nat_lit' _) (Nat.le_of_ble_eq_true rfl)) ?_
    refine S_val rfl rfl (Y_loadI 0 (und rfl) rfl rfl rfl (dl_get (Nat.le_of_ble_eq_true rfl))) ?_
    refine S_val rfl rfl (Y_assign rfl) ?_
    refine S_val rfl rfl (Y_assign rfl) ?_
    refine S_nil ?_
    refine X_seq ?_
    refine T_ret ?_
    ((first | refine X_fin_ret ?_ | refine X_fin ?_); exact ⟨[_, _], [], .cons (.tmp rfl) (.cons (.tmp rfl) .nil), Emb.nil _, by simp [retOf, h, Nat.mod_eq_of_lt h], rfl⟩)
  · have hz : (x / 18446744073709551616 ^ 1 % 18446744073709551616 ||| x / 18446744073709551616 ^ 2 % 18446744073709551616 ||| x / 18446744073709551616 ^ 3 % 18446744073709551616) ≠ 0 := by
      intro h0
      have g := congrArg Nat.testBit h0
      have e : ∀ i, i = 1 ∨ i = 2 ∨ i = 3 → x / 18446744073709551616 ^ i % 18446744073709551616 = 0 := fun i hi => by
        apply Nat.eq_of_testBit_eq
        intro j
        have := congrFun g j
        simp only [Nat.testBit_or, Nat.zero_testBit, Bool.or_eq_false_iff] at this ⊢
        rcases hi with rfl | rfl | rfl
        · exact this.1.1
        · exact this.1.2
        · exact this.2
      have e1 := e 1 (by omega)
      have e2 := e 2 (by omega)
      have e3 := e 3 (by omega)
      omega
    have hzi : ((x / 18446744073709551616 ^ 1 % 18446744073709551616 ||| x / 18446744073709551616 ^ 2 % 18446744073709551616 ||| x / 18446744073709551616 ^ 3 % 18446744073709551616 : Nat) : Int) ≠ 0 := fun e => hz (by exact_mod_cast e)
    refine Fn_of (args := [W x]) Tryd.func24 rfl Tryd.ntmps24 Tryd.results24 (by simp) ?_
    refine T_seq ?_
    refine T_region ?_
    refine S_boxA rfl rfl rfl fun _ => ?_
    refine S_val rfl rfl (Y_assign rfl) ?_
    refine S_val rfl rfl (Y_assign rfl) ?_
    refine S_nil ?_
    refine X_seq ?_
    refine T_seq ?_
    refine T_seq ?_
    refine T_region ?_
    refine S_val rfl rfl (Y_ixa (und rfl) (siz rfl) rfl rfl (nat_lit' _) (Nat.le_of_ble_eq_true rfl)) ?_
    refine S_val rfl rfl (Y_loadI 0 (und rfl) rfl rfl rfl (dl_get (Nat.le_of_ble_eq_true rfl))) ?_
    refine S_val rfl rfl (Y_ixa (und rfl) (siz rfl) rfl rfl (nat_lit' _) (Nat.le_of_ble_eq_true rfl)) ?_
    refine S_val rfl rfl (Y_loadI 0 (und rfl) rfl rfl rfl (dl_get (Nat.le_of_ble_eq_true rfl))) ?_
    refine S_val rfl rfl (Y_or rfl rfl (nat_cast _) (nat_cast _) rfl (by simp only [IntKind.bits]; omega) (by simp only [IntKind.bits]; omega)) ?_
    refine S_val rfl rfl (Y_ixa (und rfl) (siz rfl) rfl rfl (nat_lit' _) (Nat.le_of_ble_eq_true rfl)) ?_
    refine S_val rfl rfl (Y_loadI 0 (und rfl) rfl rfl rfl (dl_get (Nat.le_of_ble_eq_true rfl))) ?_
    refine S_val rfl rfl (Y_or rfl rfl (nat_cast _) (nat_cast _) rfl (by simp only [IntKind.bits]; assumption) (by simp only [IntKind.bits]; omega)) ?_
    refine S_val rfl rfl (Y_neq_t rfl rfl (by assumption)) ?_
    refine S_nil ?_
    refine X_seq ?_
    refine T_cond_true rfl ?_
    refine T_seq ?_
    refine T_region ?_
    refine S_val rfl rfl (Y_assign rfl) ?_
    refine S_val rfl rfl (Y_assign rfl) ?_
    refine S_nil ?_
    refine X_seq ?_
    refine T_ret ?_
    refine X_seq_ret ?_
    ((first | refine X_fin_ret ?_ | refine X_fin ?_); exact ⟨[_, _], [], .cons (.tmp rfl) (.cons (.tmp rfl) .nil), Emb.nil _, by simp [retOf, h], rfl⟩)

/-- A part of a word; 0 beyond. -/
def partN (x : Nat) (i : Int) : Nat := if 0 ≤ i ∧ i ≤ 3 then x / 18446744073709551616 ^ i.toNat % 18446744073709551616 else 0
theorem part_any (x : Nat) (i : Int) (w : World) : Fn Tryd.prog 80 #[W x, .int .i64 i] w fun v N => v = .int .u64 (partN x i) ∧ N = [] := by
  by_cases h1 : i < 0
  · refine Fn_of (args := [W x, .int .i64 i]) Tryd.func80 rfl Tryd.ntmps80 Tryd.results80 (by simp) ?_
    refine T_seq ?_
    refine T_region ?_
    refine S_boxA rfl rfl rfl fun _ => ?_
    refine S_val rfl rfl (Y_assign rfl) ?_
    refine S_nil ?_
    refine X_seq ?_
    refine T_seq ?_
    refine T_seq ?_
    refine T_region ?_
    refine S_val rfl rfl (Y_move rfl) ?_
    refine S_val rfl rfl (Y_lss_t rfl rfl (by assumption)) ?_
    refine S_val rfl rfl (Y_move rfl) ?_
    refine S_skip rfl rfl ?_
    refine S_skip rfl rfl ?_
    refine S_val rfl rfl (Y_pick_t rfl rfl) ?_
    refine S_nil ?_
    refine X_seq ?_
    refine T_cond_true rfl ?_
    refine T_seq ?_
    refine T_region ?_
    refine S_val rfl rfl (Y_assign rfl) ?_
    refine S_nil ?_
    refine X_seq ?_
    refine T_ret ?_
    refine X_seq_ret ?_
    ((first | refine X_fin_ret ?_ | refine X_fin ?_); exact ⟨[_], [], .cons (.tmp rfl) .nil, Emb.nil _, by unfold partN; rw [if_neg (by omega)]; rfl, rfl⟩)
  · by_cases h2 : 3 < i
    · refine Fn_of (args := [W x, .int .i64 i]) Tryd.func80 rfl Tryd.ntmps80 Tryd.results80 (by simp) ?_
      refine T_seq ?_
      refine T_region ?_
      refine S_boxA rfl rfl rfl fun _ => ?_
      refine S_val rfl rfl (Y_assign rfl) ?_
      refine S_nil ?_
      refine X_seq ?_
      refine T_seq ?_
      refine T_seq ?_
      refine T_region ?_
      refine S_val rfl rfl (Y_move rfl) ?_
      refine S_val rfl rfl (Y_lss_f rfl rfl (by assumption)) ?_
      refine S_val rfl rfl (Y_move rfl) ?_
      refine S_val rfl rfl (Y_move rfl) ?_
      refine S_val rfl rfl (Y_gtr_t rfl rfl (by assumption)) ?_
      refine S_val rfl rfl (Y_pick_f rfl rfl) ?_
      refine S_nil ?_
      refine X_seq ?_
      refine T_cond_true rfl ?_
      refine T_seq ?_
      refine T_region ?_
      refine S_val rfl rfl (Y_assign rfl) ?_
      refine S_nil ?_
      refine X_seq ?_
      refine T_ret ?_
      refine X_seq_ret ?_
      ((first | refine X_fin_ret ?_ | refine X_fin ?_); exact ⟨[_], [], .cons (.tmp rfl) .nil, Emb.nil _, by unfold partN; rw [if_neg (by omega)]; rfl, rfl⟩)
    · obtain ⟨j, rfl⟩ : ∃ j : Nat, i = j := ⟨i.toNat, by omega⟩
      refine Fn_of (args := [W x, .int .i64 j]) Tryd.func80 rfl Tryd.ntmps80 Tryd.results80 (by simp) ?_
      refine T_seq ?_
      refine T_region ?_
      refine S_boxA rfl rfl rfl fun _ => ?_
      refine S_val rfl rfl (Y_assign rfl) ?_
      refine S_nil ?_
      refine X_seq ?_
      refine T_seq ?_
      refine T_seq ?_
      refine T_region ?_
      refine S_val rfl rfl (Y_move rfl) ?_
      refine S_val rfl rfl (Y_lss_f rfl rfl (by assumption)) ?_
      refine S_val rfl rfl (Y_move rfl) ?_
      refine S_val rfl rfl (Y_move rfl) ?_
      refine S_val rfl rfl (Y_gtr_f rfl rfl (by assumption)) ?_
      refine S_val rfl rfl (Y_pick_f rfl rfl) ?_
      refine S_nil ?_
      refine X_seq ?_
      refine T_cond_false rfl ?_
      refine T_skip ?_
      refine X_seq ?_
      refine T_seq ?_
      refine T_region ?_
      refine S_val rfl rfl (Y_move rfl) ?_
      refine S_val rfl rfl (Y_ixa (und rfl) (siz rfl) rfl rfl (nat_cast _) (by omega)) ?_
      refine S_val rfl rfl (Y_loadI 0 (und rfl) rfl rfl rfl (dl_get (by omega))) ?_
      refine S_val rfl rfl (Y_assign rfl) ?_
      refine S_nil ?_
      refine X_seq ?_
      refine T_ret ?_
      ((first | refine X_fin_ret ?_ | refine X_fin ?_); exact ⟨[_], [], .cons (.tmp rfl) .nil, Emb.nil _, by unfold partN; rw [if_pos (by omega)]; rfl, rfl⟩)

theorem bit_any (x n : Nat) (hx : x < 2 ^ 256) (hn : n < 18446744073709551616) (w : World) : Fn Tryd.prog 50 #[W x, .int .u64 n] w fun v N => v = .bool (x.testBit n) ∧ N = [] := by
  by_cases h : n < 256
  · have hb : (x / 18446744073709551616 ^ (n / 64) % 18446744073709551616 / 2 ^ (n % 64)) &&& 1 = if x.testBit n then 1 else 0 := by
      rw [Nat.and_one_is_mod]
      have := digit_bits x (n / 64) (n % 64)
      rw [show 64 * (n / 64) + n % 64 = n by omega] at this
      simp only [show n % 64 < 64 by omega, decide_true, Bool.true_and] at this
      rw [← this, Nat.testBit_eq_decide_div_mod_eq]
      simp only [decide_eq_true_eq]
      split <;> omega
    have hd := digit_lt x (n / 64)
    have hd2 : x / 18446744073709551616 ^ (n / 64) % 18446744073709551616 / 2 ^ (n % 64) ≤ x / 18446744073709551616 ^ (n / 64) % 18446744073709551616 := Nat.div_le_self _ _
    refine Fn_of (args := [W x, .int .u64 n]) Tryd.func50 rfl Tryd.ntmps50 Tryd.results50 (by simp) ?_
    cases hx : x.testBit n with
    | true =>
      rw [hx, if_pos rfl] at hb
      refine T_seq ?_
      refine T_region ?_
      refine S_boxA rfl rfl rfl fun _ => ?_
      refine S_val rfl rfl (Y_assign rfl) ?_
      refine S_nil ?_
      refine X_seq ?_
      refine T_seq ?_
      refine T_region ?_
      refine S_val rfl rfl (Y_move rfl) ?_
      refine S_val rfl rfl (Y_lss_t rfl rfl (by omega)) ?_
      refine S_val rfl rfl (Y_move rfl) ?_
      refine S_val rfl rfl (Y_move rfl) ?_
      refine S_val rfl rfl (Y_quoN rfl rfl (nat_cast _) (nat_lit' _) (Nat.succ_ne_zero _) (by first | with_reducible exact xi64 (by omega) | with_reducible exact x64 (by omega) | with_reducible exact x8 (by omega) | with_reducible exact x32 (by omega))) ?_
      refine S_val rfl rfl (Y_ixa (und rfl) (siz rfl) rfl rfl (nat_cast _) (by omega)) ?_
      refine S_val rfl rfl (Y_loadI 0 (und rfl) rfl rfl rfl (dl_get (by omega))) ?_
      refine S_val rfl rfl (Y_move rfl) ?_
      refine S_val rfl rfl (Y_remN rfl rfl (nat_cast _) (nat_lit' _) (Nat.succ_ne_zero _)) ?_
      refine S_val rfl rfl (Y_shrN rfl rfl (nat_cast _) (nat_cast _) (by simp only [IntKind.bits]; assumption)) ?_
      refine S_val rfl rfl (Y_and rfl rfl (nat_cast _) (nat_lit' _) rfl (by simp only [IntKind.bits]; omega) (by simp only [IntKind.bits]; omega)) ?_
      refine S_val rfl rfl (Y_eql_t rfl rfl (by omega)) ?_
      refine S_val rfl rfl (Y_pick_t rfl rfl) ?_
      refine S_val rfl rfl (Y_assign rfl) ?_
      refine S_nil ?_
      refine X_seq ?_
      refine T_ret ?_
      ((first | refine X_fin_ret ?_ | refine X_fin ?_); exact ⟨[_], [], .cons (.tmp rfl) .nil, Emb.nil _, rfl, rfl⟩)
    | false =>
      rw [hx, if_neg (by simp)] at hb
      refine T_seq ?_
      refine T_region ?_
      refine S_boxA rfl rfl rfl fun _ => ?_
      refine S_val rfl rfl (Y_assign rfl) ?_
      refine S_nil ?_
      refine X_seq ?_
      refine T_seq ?_
      refine T_region ?_
      refine S_val rfl rfl (Y_move rfl) ?_
      refine S_val rfl rfl (Y_lss_t rfl rfl (by omega)) ?_
      refine S_val rfl rfl (Y_move rfl) ?_
      refine S_val rfl rfl (Y_move rfl) ?_
      refine S_val rfl rfl (Y_quoN rfl rfl (nat_cast _) (nat_lit' _) (Nat.succ_ne_zero _) (by first | with_reducible exact xi64 (by omega) | with_reducible exact x64 (by omega) | with_reducible exact x8 (by omega) | with_reducible exact x32 (by omega))) ?_
      refine S_val rfl rfl (Y_ixa (und rfl) (siz rfl) rfl rfl (nat_cast _) (by omega)) ?_
      refine S_val rfl rfl (Y_loadI 0 (und rfl) rfl rfl rfl (dl_get (by omega))) ?_
      refine S_val rfl rfl (Y_move rfl) ?_
      refine S_val rfl rfl (Y_remN rfl rfl (nat_cast _) (nat_lit' _) (Nat.succ_ne_zero _)) ?_
      refine S_val rfl rfl (Y_shrN rfl rfl (nat_cast _) (nat_cast _) (by simp only [IntKind.bits]; assumption)) ?_
      refine S_val rfl rfl (Y_and rfl rfl (nat_cast _) (nat_lit' _) rfl (by simp only [IntKind.bits]; omega) (by simp only [IntKind.bits]; omega)) ?_
      refine S_val rfl rfl (Y_eql_f rfl rfl (by omega)) ?_
      refine S_val rfl rfl (Y_pick_t rfl rfl) ?_
      refine S_val rfl rfl (Y_assign rfl) ?_
      refine S_nil ?_
      refine X_seq ?_
      refine T_ret ?_
      ((first | refine X_fin_ret ?_ | refine X_fin ?_); exact ⟨[_], [], .cons (.tmp rfl) .nil, Emb.nil _, rfl, rfl⟩)
  · have hb : x.testBit n = false := Nat.testBit_lt_two_pow (Nat.lt_of_lt_of_le hx (Nat.pow_le_pow_right (by omega) (by omega)))
    refine Fn_of (args := [W x, .int .u64 n]) Tryd.func50 rfl Tryd.ntmps50 Tryd.results50 (by simp) ?_
    refine T_seq ?_
    refine T_region ?_
    refine S_boxA rfl rfl rfl fun _ => ?_
    refine S_val rfl rfl (Y_assign rfl) ?_
    refine S_nil ?_
    refine X_seq ?_
    refine T_seq ?_
    refine T_region ?_
    refine S_val rfl rfl (Y_move rfl) ?_
    refine S_val rfl rfl (Y_lss_f rfl rfl (by omega)) ?_
    refine S_val rfl rfl (Y_move rfl) ?_
    refine S_skip rfl rfl ?_
    refine S_skip rfl rfl ?_
    refine S_skip rfl rfl ?_
    refine S_skip rfl rfl ?_
    refine S_skip rfl rfl ?_
    refine S_skip rfl rfl ?_
    refine S_skip rfl rfl ?_
    refine S_skip rfl rfl ?_
    refine S_skip rfl rfl ?_
    refine S_val rfl rfl (Y_pick_f rfl rfl) ?_
    refine S_val rfl rfl (Y_assign rfl) ?_
    refine S_nil ?_
    refine X_seq ?_
    refine T_ret ?_
    ((first | refine X_fin_ret ?_ | refine X_fin ?_); exact ⟨[_], [], .cons (.tmp rfl) .nil, Emb.nil _, by rw [hb]; rfl, rfl⟩)

theorem mul64_nat (x y : Nat) (hx : x < 18446744073709551616) (hy : y < 18446744073709551616) :
    ((x / 2 ^ 32 * (y / 2 ^ 32) % 18446744073709551616 + (x / 2 ^ 32 * (y % 4294967296) % 18446744073709551616 + x % 4294967296 * (y % 4294967296) % 18446744073709551616 / 2 ^ 32) % 18446744073709551616 / 2 ^ 32) % 18446744073709551616 +
      ((x / 2 ^ 32 * (y % 4294967296) % 18446744073709551616 + x % 4294967296 * (y % 4294967296) % 18446744073709551616 / 2 ^ 32) % 18446744073709551616 % 4294967296 + x % 4294967296 * (y / 2 ^ 32) % 18446744073709551616) % 18446744073709551616 / 2 ^ 32) % 18446744073709551616 = x * y / 18446744073709551616 := by
  have ex : x = x / 2 ^ 32 * 4294967296 + x % 4294967296 := by omega
  have ey : y = y / 2 ^ 32 * 4294967296 + y % 4294967296 := by omega
  have b1 : x / 2 ^ 32 ≤ 4294967295 := by omega
  have b2 : x % 4294967296 ≤ 4294967295 := by omega
  have b3 : y / 2 ^ 32 ≤ 4294967295 := by omega
  have b4 : y % 4294967296 ≤ 4294967295 := by omega
  generalize x / 2 ^ 32 = x1 at *
  generalize x % 4294967296 = x0 at *
  generalize y / 2 ^ 32 = y1 at *
  generalize y % 4294967296 = y0 at *
  have pA := Nat.mul_le_mul b1 b3
  have pB := Nat.mul_le_mul b1 b4
  have pC := Nat.mul_le_mul b2 b4
  have pD := Nat.mul_le_mul b2 b3
  have hxy : x * y = x1 * y1 * 18446744073709551616 + (x1 * y0 + x0 * y1) * 4294967296 + x0 * y0 := by
    rw [ex, ey]
    have e1 : (x1 * 4294967296 + x0) * (y1 * 4294967296 + y0) = x1 * y1 * (4294967296 * 4294967296) + (x1 * y0 + x0 * y1) * 4294967296 + x0 * y0 := by grind
    exact e1
  rw [hxy]
  generalize x1 * y1 = A at *
  generalize x1 * y0 = B at *
  generalize x0 * y0 = C at *
  generalize x0 * y1 = D at *
  omega
theorem mul64_any (x y : Nat) (hx : x < 18446744073709551616) (hy : y < 18446744073709551616) (w : World) : Fn Tryd.prog 47 #[.int .u64 x, .int .u64 y] w fun v N => v = .tuple #[.int .u64 ((x * y / 18446744073709551616 : Nat) : Int), .int .u64 ((x * y % 18446744073709551616 : Nat) : Int)] ∧ N = [] := by
  refine Fn_of (args := [.int .u64 x, .int .u64 y]) Tryd.func47 rfl Tryd.ntmps47 Tryd.results47 (by simp) ?_
  refine T_seq ?_
  refine T_region ?_
  refine S_val rfl rfl (Y_assign rfl) ?_
  refine S_val rfl rfl (Y_assign rfl) ?_
  refine S_nil ?_
  refine X_seq ?_
  refine T_seq ?_
  refine T_region ?_
  refine S_val rfl rfl (Y_move rfl) ?_
  refine S_val rfl rfl (Y_mask32 rfl rfl (nat_cast _) (by assumption)) ?_
  refine S_val rfl rfl (Y_assign rfl) ?_
  refine S_nil ?_
  refine X_seq ?_
  refine T_seq ?_
  refine T_region ?_
  refine S_val rfl rfl (Y_move rfl) ?_
  refine S_val rfl rfl (Y_shrN rfl rfl (nat_cast _) (nat_lit' _) (by simp only [IntKind.bits]; assumption)) ?_
  refine S_val rfl rfl (Y_assign rfl) ?_
  refine S_nil ?_
  refine X_seq ?_
  refine T_seq ?_
  refine T_region ?_
  refine S_val rfl rfl (Y_move rfl) ?_
  refine S_val rfl rfl (Y_mask32 rfl rfl (nat_cast _) (by assumption)) ?_
  refine S_val rfl rfl (Y_assign rfl) ?_
  refine S_nil ?_
  refine X_seq ?_
  refine T_seq ?_
  refine T_region ?_
  refine S_val rfl rfl (Y_move rfl) ?_
  refine S_val rfl rfl (Y_shrN rfl rfl (nat_cast _) (nat_lit' _) (by simp only [IntKind.bits]; assumption)) ?_
  refine S_val rfl rfl (Y_assign rfl) ?_
  refine S_nil ?_
  refine X_seq ?_
  refine T_seq ?_
  refine T_region ?_
  refine S_val rfl rfl (Y_move rfl) ?_
  refine S_val rfl rfl (Y_move rfl) ?_
  refine S_val rfl rfl (Y_mul64 rfl rfl (nat_cast _) (nat_cast _)) ?_
  refine S_val rfl rfl (Y_assign rfl) ?_
  refine S_nil ?_
  refine X_seq ?_
  refine T_seq ?_
  refine T_region ?_
  refine S_val rfl rfl (Y_move rfl) ?_
  refine S_val rfl rfl (Y_move rfl) ?_
  refine S_val rfl rfl (Y_mul64 rfl rfl (nat_cast _) (nat_cast _)) ?_
  refine S_val rfl rfl (Y_move rfl) ?_
  refine S_val rfl rfl (Y_shrN rfl rfl (nat_cast _) (nat_lit' _) (by simp only [IntKind.bits]; omega)) ?_
  refine S_val rfl rfl (Y_add64 rfl rfl (nat_cast _) (nat_cast _)) ?_
  refine S_val rfl rfl (Y_assign rfl) ?_
  refine S_nil ?_
  refine X_seq ?_
  refine T_seq ?_
  refine T_region ?_
  refine S_val rfl rfl (Y_move rfl) ?_
  refine S_val rfl rfl (Y_mask32 rfl rfl (nat_cast _) (by omega)) ?_
  refine S_val rfl rfl (Y_assign rfl) ?_
  refine S_nil ?_
  refine X_seq ?_
  refine T_seq ?_
  refine T_region ?_
  refine S_val rfl rfl (Y_move rfl) ?_
  refine S_val rfl rfl (Y_shrN rfl rfl (nat_cast _) (nat_lit' _) (by simp only [IntKind.bits]; omega)) ?_
  refine S_val rfl rfl (Y_assign rfl) ?_
  refine S_nil ?_
  refine X_seq ?_
  refine T_seq ?_
  refine T_region ?_
  refine S_val rfl rfl (Y_move rfl) ?_
  refine S_val rfl rfl (Y_move rfl) ?_
  refine S_val rfl rfl (Y_move rfl) ?_
  refine S_val rfl rfl (Y_mul64 rfl rfl (nat_cast _) (nat_cast _)) ?_
  refine S_val rfl rfl (Y_add64 rfl rfl (nat_cast _) (nat_cast _)) ?_
  refine S_val rfl rfl (Y_assign rfl) ?_
  refine S_nil ?_
  refine X_seq ?_
  refine T_seq ?_
  refine T_region ?_
  refine S_val rfl rfl (Y_move rfl) ?_
  refine S_val rfl rfl (Y_move rfl) ?_
  refine S_val rfl rfl (Y_mul64 rfl rfl (nat_cast _) (nat_cast _)) ?_
  refine S_val rfl rfl (Y_move rfl) ?_
  refine S_val rfl rfl (Y_add64 rfl rfl (nat_cast _) (nat_cast _)) ?_
  refine S_val rfl rfl (Y_move rfl) ?_
  refine S_val rfl rfl (Y_shrN rfl rfl (nat_cast _) (nat_lit' _) (by simp only [IntKind.bits]; omega)) ?_
  refine S_val rfl rfl (Y_add64 rfl rfl (nat_cast _) (nat_cast _)) ?_
  refine S_val rfl rfl (Y_assign rfl) ?_
  refine S_nil ?_
  refine X_seq ?_
  refine T_seq ?_
  refine T_region ?_
  refine S_val rfl rfl (Y_move rfl) ?_
  refine S_val rfl rfl (Y_move rfl) ?_
  refine S_val rfl rfl (Y_mul64 rfl rfl (nat_cast _) (nat_cast _)) ?_
  refine S_val rfl rfl (Y_assign rfl) ?_
  refine S_nil ?_
  refine X_seq ?_
  refine T_ret ?_
  ((first | refine X_fin_ret ?_ | refine X_fin ?_); exact ⟨[_, _], [], .cons (.tmp rfl) (.cons (.tmp rfl) .nil), Emb.nil _, by rw [mul64_nat x y hx hy]; rfl, rfl⟩)

/-- A row of a product: in n digits what is above is cut off. -/
theorem mul_row (b n i y : Nat) (hi : i ≤ n) : y % b ^ (n - i) * b ^ i = y * b ^ i % b ^ n := by
  have : b ^ n = b ^ (n - i) * b ^ i := by rw [← Nat.pow_add]; congr 1; omega
  rw [this, Nat.mul_mod_mul_right]
theorem mul_outer (b n i x y o : Nat) (hi : i ≤ n) (ho : o % b ^ n = x % b ^ i * y % b ^ n) : (o + x / b ^ i % b * (y % b ^ (n - i)) * b ^ i) % b ^ n = x % b ^ (i + 1) * y % b ^ n := by
  rw [Nat.mul_assoc, mul_row b n i y hi, Nat.add_mod, Nat.mul_mod, Nat.mod_mod, ← Nat.mul_mod, ho, ← Nat.add_mod, mod_pow_succ', Nat.add_mul]
  congr 2
  rw [Nat.mul_assoc, Nat.mul_comm y]
theorem digit_rep {b r d h i j : Nat} (hb : 0 < b) (hr : r < b ^ i) (hd : d < b) : (r + d * b ^ i + h * b ^ (i + 1)) / b ^ j % b = if j < i then r / b ^ j % b else if j = i then d else h / b ^ (j - i - 1) % b := by
  have hP : 0 < b ^ i := Nat.pow_pos hb
  have h1 : r + d * b ^ i < b ^ (i + 1) := by
    rw [Nat.pow_succ, Nat.mul_comm (b ^ i) b]
    have : (d + 1) * b ^ i ≤ b * b ^ i := Nat.mul_le_mul_right _ hd
    rw [Nat.succ_mul] at this
    omega
  split
  · rename_i hj
    rw [← digit_mod b i _ j hj, Nat.pow_succ, show h * (b ^ i * b) = (h * b) * b ^ i by rw [Nat.mul_comm (b ^ i) b, Nat.mul_assoc], Nat.add_mul_mod_self_right, Nat.add_mul_mod_self_right, digit_mod b i _ j hj]
  · split
    · rename_i _ hj
      subst hj
      rw [Nat.pow_succ, show h * (b ^ j * b) = (h * b) * b ^ j by rw [Nat.mul_comm (b ^ j) b, Nat.mul_assoc], Nat.add_assoc, ← Nat.add_mul, Nat.add_mul_div_right _ _ hP, Nat.div_eq_of_lt hr, Nat.zero_add, Nat.add_mul_mod_self_right, Nat.mod_eq_of_lt hd]
    · rename_i hj hj2
      have : b ^ j = b ^ (i + 1) * b ^ (j - i - 1) := by rw [← Nat.pow_add]; congr 1; omega
      rw [this, ← Nat.div_div_eq_div_mul, Nat.add_mul_div_right _ _ (Nat.pow_pos hb), Nat.div_eq_of_lt h1, Nat.zero_add]
theorem split_at (b i x : Nat) : x = x % b ^ i + x / b ^ i % b * b ^ i + x / b ^ (i + 1) * b ^ (i + 1) := by
  rw [← mod_pow_succ', Nat.mul_comm (x / b ^ (i + 1)), Nat.mod_add_div]
/-- A digit is turned. -/
theorem dl_put {b n x d i : Nat} (hb : 0 < b) (hd : d < b) : (dl b n x).set i ((d : Nat) : Int) = dl b n (x - x / b ^ i % b * b ^ i + d * b ^ i) := by
  have hs := split_at b i x
  have hr : x % b ^ i < b ^ i := Nat.mod_lt _ (Nat.pow_pos hb)
  have hxi : x / b ^ i % b < b := Nat.mod_lt _ hb
  generalize x % b ^ i = r at *
  generalize x / b ^ i % b = c at *
  generalize x / b ^ (i + 1) = h at *
  subst hs
  have e : r + c * b ^ i + h * b ^ (i + 1) - c * b ^ i + d * b ^ i = r + d * b ^ i + h * b ^ (i + 1) := by omega
  rw [e]
  apply List.ext_getElem?
  intro j
  rw [List.getElem?_set, dl_length]
  by_cases hj : j < n
  · rw [dl_get hj, dl_get hj, digit_rep hb hr hd, digit_rep hb hr hxi]
    by_cases h1 : i = j
    · subst h1; simp [hj]
    · simp only [h1, if_false, show ¬ j = i by omega]
  · have h1 : (dl b n (r + c * b ^ i + h * b ^ (i + 1)))[j]? = none := List.getElem?_eq_none (by rw [dl_length]; omega)
    have h2 : (dl b n (r + d * b ^ i + h * b ^ (i + 1)))[j]? = none := List.getElem?_eq_none (by rw [dl_length]; omega)
    rw [h1, h2]
    split
    · rename_i h; subst h; simp [hj]
    · rfl
theorem dl_eqmod {b n x y : Nat} (h : x % b ^ n = y % b ^ n) : dl b n x = dl b n y := by rw [← dl_mod, h, dl_mod]

theorem mul_any (x y : Nat) (w : World) : Fn Tryd.prog 30 #[W x, W y] w fun v N => v = W (x * y % 2 ^ 256) ∧ N = [] := by
  refine Fn_of (args := [W x, W y]) Tryd.func30 rfl Tryd.ntmps30 Tryd.results30 (by simp) ?_
  refine T_seq ?_
  refine T_region ?_
  refine S_boxA rfl rfl rfl fun _ => ?_
  refine S_boxA rfl rfl rfl fun _ => ?_
  refine S_allocA (zer rfl) rfl rfl fun _ => ?_
  refine S_nil ?_
  refine X_seq ?_
  refine T_seq ?_
  refine T_region ?_
  refine S_allocA (zer rfl) rfl rfl fun _ => ?_
  refine S_nil ?_
  refine X_seq ?_
  refine T_seq ?_
  refine T_seq ?_
  refine T_region ?_
  refine S_val rfl rfl (Y_move rfl) ?_
  refine S_nil ?_
  refine X_seq ?_
  refine T_block ?_
  rename_i b0 b1 b2 b3
  refine T_loop (α := Nat × Nat) (fun a => a.1 ≤ 4 ∧ a.2 % 18446744073709551616 ^ 4 = x % 18446744073709551616 ^ a.1 * y % 18446744073709551616 ^ 4)
    (fun a => [(2, .pointer (some ⟨b0, 0, none⟩)), (3, .pointer (some ⟨b1, 0, none⟩)), (4, .pointer (some ⟨b2, 0, none⟩)), (5, .pointer (some ⟨b3, 0, none⟩)), (12, .int .i64 a.1)])
    (fun a => [blk b0 (.cells (ints .u64 (dl 18446744073709551616 4 (x))) 47 (0, 0)), blk b1 (.cells (ints .u64 (dl 18446744073709551616 4 (y))) 47 (0, 0)), blk b2 (.cells (ints .u64 (List.replicate 4 0)) 47 (0, 0)), blk b3 (.cells (ints .u64 (dl 18446744073709551616 4 (a.2))) 47 (0, 0))])
    (fun a => 4 - a.1) (0, 0) (by simp [Nat.mod_one]) (by repeat (first | exact Env.sub_nil _ | (apply Env.sub_cons; rfl))) [] rfl ?_
  rintro ⟨i, o⟩ ⟨hi, ho⟩
  dsimp only at hi ho ⊢
  by_cases h : i < 4
  · refine T_seq ?_
    refine T_region ?_
    refine S_val rfl rfl (Y_lss_t rfl rfl (by omega)) ?_
    refine S_nil ?_
    refine X_seq ?_
    refine T_seq ?_
    refine T_cond_true rfl ?_
    refine T_skip ?_
    refine X_seq ?_
    refine T_seq ?_
    refine T_block ?_
    refine T_seq ?_
    refine T_region ?_
    refine S_val rfl rfl (Y_move rfl) ?_
    refine S_val rfl rfl (Y_assign rfl) ?_
    refine S_nil ?_
    refine X_seq ?_
    refine T_seq ?_
    refine T_region ?_
    refine S_val rfl rfl (Y_assign rfl) ?_
    refine S_nil ?_
    refine X_seq ?_
    refine T_seq ?_
    refine T_region ?_
    refine S_val rfl rfl (Y_assign rfl) ?_
    refine S_nil ?_
    refine X_seq ?_
    refine T_block ?_
    refine T_loop (α := Nat × Nat × Nat) (fun a => a.1 ≤ 4 - i ∧ a.2.1 < 18446744073709551616 ∧ a.2.2 + a.2.1 * 18446744073709551616 ^ (i + a.1) = o + x / 18446744073709551616 ^ i % 18446744073709551616 * (y % 18446744073709551616 ^ a.1) * 18446744073709551616 ^ i)
      (fun a => [(2, .pointer (some ⟨b0, 0, none⟩)), (3, .pointer (some ⟨b1, 0, none⟩)), (4, .pointer (some ⟨b2, 0, none⟩)), (5, .pointer (some ⟨b3, 0, none⟩)), (12, .int .i64 i), (6, .int .i64 i), (7, .int .u64 a.2.1), (8, .int .i64 a.1)])
      (fun a => [blk b0 (.cells (ints .u64 (dl 18446744073709551616 4 (x))) 47 (0, 0)), blk b1 (.cells (ints .u64 (dl 18446744073709551616 4 (y))) 47 (0, 0)), blk b2 (.cells (ints .u64 (List.replicate 4 0)) 47 (0, 0)), blk b3 (.cells (ints .u64 (dl 18446744073709551616 4 (a.2.2))) 47 (0, 0))])
      (fun a => 4 - a.1) (0, 0, o) (by simp [Nat.mod_one]) (by repeat (first | exact Env.sub_nil _ | (apply Env.sub_cons; rfl))) [] rfl ?_
    rintro ⟨j, c, p⟩ ⟨hj, hc, hp⟩
    dsimp only at hj hc hp ⊢
    have hxi := digit_lt x i
    have hyj := digit_lt y j
    have hpj := digit_lt p (i + j)
    have hxy : x / 18446744073709551616 ^ i % 18446744073709551616 * (y / 18446744073709551616 ^ j % 18446744073709551616) ≤ 18446744073709551615 * 18446744073709551615 := Nat.mul_le_mul (by omega) (by omega)
    by_cases h2 : i + j < 4
    · refine T_seq ?_
      refine T_seq ?_
      refine T_region ?_
      refine S_val rfl rfl (Y_move rfl) ?_
      refine S_val rfl rfl (Y_move rfl) ?_
      refine S_val rfl rfl (Y_addN rfl rfl (nat_cast _) (nat_cast _) (by omega)) ?_
      refine S_val rfl rfl (Y_lss_t rfl rfl (by omega)) ?_
      refine S_nil ?_
      refine X_seq ?_
      refine T_cond_true rfl ?_
      refine T_skip ?_
      refine X_seq ?_
      refine T_seq ?_
      refine T_block ?_
      refine T_seq ?_
      refine T_draw (by kernel_rfl) (by kernel_rfl) rfl ?_
      refine D0_val rfl rfl rfl (Y_move rfl) ?_
      refine D0_val rfl rfl rfl (Y_ixa (und rfl) (siz rfl) rfl rfl (nat_cast _) (by assumption)) ?_
      refine D0_valM rfl rfl rfl (Y_loadI 0 (und rfl) rfl rfl rfl (dl_get (by assumption))) ?_
      refine D0_val rfl rfl rfl (Y_move rfl) ?_
      refine D0_val rfl rfl rfl (Y_ixa (und rfl) (siz rfl) rfl rfl (nat_cast _) (by omega)) ?_
      refine D0_valM rfl rfl rfl (Y_loadI 1 (und rfl) rfl rfl rfl (dl_get (by omega))) ?_
      refine D0_callV rfl rfl (bod rfl) (fun w hs => mul64_any _ _ hxi hyj _) rfl rfl ?_
      refine D0_val rfl rfl rfl (Y_move rfl) ?_
      refine D0_val rfl rfl rfl (Y_extract rfl rfl) ?_
      refine D0_val rfl rfl rfl (Y_extract rfl rfl) ?_
      refine D0_val rfl rfl rfl (Y_assign rfl) ?_
      refine D0_val rfl rfl rfl (Y_assign rfl) ?_
      refine D0_nil ?_
      refine X_seq ?_
      refine T_seq ?_
      refine T_region ?_
      refine S_val rfl rfl (Y_move rfl) ?_
      refine S_val rfl rfl (Y_move rfl) ?_
      refine S_val rfl rfl (Y_move rfl) ?_
      refine S_val rfl rfl (Y_addN rfl rfl (nat_cast _) (nat_cast _) (by omega)) ?_
      refine S_val rfl rfl (Y_ixa (und rfl) (siz rfl) rfl rfl (nat_cast _) (by assumption)) ?_
      refine S_val rfl rfl (Y_loadI 3 (und rfl) rfl rfl rfl (dl_get (by assumption))) ?_
      refine S_val rfl rfl (Y_ext rfl rfl fun w => add64 _ _ 0 (by omega) _) ?_
      refine S_val rfl rfl (Y_move rfl) ?_
      refine S_val rfl rfl (Y_extract rfl rfl) ?_
      refine S_val rfl rfl (Y_extract rfl rfl) ?_
      refine S_val rfl rfl (Y_assign rfl) ?_
      refine S_val rfl rfl (Y_assign rfl) ?_
      refine S_nil ?_
      refine X_seq ?_
      refine T_seq ?_
      refine T_region ?_
      refine S_val rfl rfl (Y_move rfl) ?_
      refine S_val rfl rfl (Y_move rfl) ?_
      refine S_val rfl rfl (Y_addU rfl rfl (nat_cast _) (nat_cast _) rfl (by simp only [IntKind.bits]; omega)) ?_
      refine S_val rfl rfl (Y_assign rfl) ?_
      refine S_nil ?_
      refine X_seq ?_
      refine T_seq ?_
      refine T_region ?_
      refine S_val rfl rfl (Y_move rfl) ?_
      refine S_val rfl rfl (Y_move rfl) ?_
      refine S_val rfl rfl (Y_ext rfl rfl fun w => add64 _ _ 0 (by omega) _) ?_
      refine S_val rfl rfl (Y_move rfl) ?_
      refine S_val rfl rfl (Y_extract rfl rfl) ?_
      refine S_val rfl rfl (Y_extract rfl rfl) ?_
      refine S_val rfl rfl (Y_assign rfl) ?_
      refine S_val rfl rfl (Y_assign rfl) ?_
      refine S_nil ?_
      refine X_seq ?_
      refine T_seq ?_
      refine T_region ?_
      refine S_val rfl rfl (Y_move rfl) ?_
      refine S_val rfl rfl (Y_move rfl) ?_
      refine S_val rfl rfl (Y_addN rfl rfl (nat_cast _) (nat_cast _) (by omega)) ?_
      refine S_val rfl rfl (Y_move rfl) ?_
      refine S_val rfl rfl (Y_ixa (und rfl) (siz rfl) rfl rfl (nat_cast _) (by assumption)) ?_
      refine S_storeI 3 (siz rfl) rfl rfl rfl (by simp; omega) rfl rfl ?_
      refine S_nil ?_
      refine X_seq ?_
      refine T_region ?_
      refine S_val rfl rfl (Y_move rfl) ?_
      refine S_val rfl rfl (Y_move rfl) ?_
      refine S_val rfl rfl (Y_addU rfl rfl (nat_cast _) (nat_cast _) rfl (by simp only [IntKind.bits]; omega)) ?_
      refine S_val rfl rfl (Y_assign rfl) ?_
      refine S_nil ?_
      refine X_blk ?_
      refine X_seq ?_
      refine T_region ?_
      refine S_val rfl rfl (Y_move rfl) ?_
      refine S_val rfl rfl (Y_addN rfl rfl (nat_cast _) (nat_lit' _) (by omega)) ?_
      refine S_val rfl rfl (Y_assign rfl) ?_
      refine S_nil ?_
      refine X_loop ?_
      refine ⟨(j + 1, _, _), ⟨?_, ?_, ?_⟩, ?_, (by repeat (first | exact Env.sub_nil _ | (apply Env.sub_cons; rfl))), [], by rw [dl_put (by omega) (Nat.mod_lt _ (by omega))]; rfl⟩
      · dsimp only; omega
      · dsimp only; omega
      · dsimp only
        have hs := split_at 18446744073709551616 (i + j) p
        have hy2 := mod_pow_succ' y 18446744073709551616 j
        rw [hy2]
        generalize x / 18446744073709551616 ^ i % 18446744073709551616 = xi at *
        generalize y / 18446744073709551616 ^ j % 18446744073709551616 = yj at *
        generalize p / 18446744073709551616 ^ (i + j) % 18446744073709551616 = pj at *
        have hP : (18446744073709551616 : Nat) ^ (i + (j + 1)) = 18446744073709551616 * 18446744073709551616 ^ (i + j) := by rw [← Nat.add_assoc, Nat.pow_succ, Nat.mul_comm]
        have hQ : xi * (y % 18446744073709551616 ^ j + yj * 18446744073709551616 ^ j) * 18446744073709551616 ^ i = xi * (y % 18446744073709551616 ^ j) * 18446744073709551616 ^ i + xi * yj * 18446744073709551616 ^ (i + j) := by
          rw [Nat.mul_add, Nat.add_mul, ← Nat.mul_assoc xi yj, Nat.mul_assoc (xi * yj), ← Nat.pow_add, Nat.add_comm j i]
        rw [hP, hQ, ← Nat.mul_assoc]
        generalize xi * yj = m at *
        generalize hl : ((m % 18446744073709551616 + pj + 0) % 18446744073709551616 + c + 0) % 18446744073709551616 = l2
        generalize hcc : m / 18446744073709551616 + (m % 18446744073709551616 + pj + 0) / 18446744073709551616 + ((m % 18446744073709551616 + pj + 0) % 18446744073709551616 + c + 0) / 18446744073709551616 = c2
        have key : l2 + c2 * 18446744073709551616 = m + pj + c := by omega
        have k2 := congrArg (· * 18446744073709551616 ^ (i + j)) key
        simp only [Nat.add_mul] at k2
        omega
      · dsimp only; omega
    · refine T_seq ?_
      refine T_seq ?_
      refine T_region ?_
      refine S_val rfl rfl (Y_move rfl) ?_
      refine S_val rfl rfl (Y_move rfl) ?_
      refine S_val rfl rfl (Y_addN rfl rfl (nat_cast _) (nat_cast _) (by omega)) ?_
      refine S_val rfl rfl (Y_lss_f rfl rfl (by omega)) ?_
      refine S_nil ?_
      refine X_seq ?_
      refine T_cond_false rfl ?_
      refine T_exit ?_
      refine X_seq_exit ?_
      refine X_loop_exit ?_
      refine X_blk_hit rfl ?_
      refine X_blk ?_
      refine X_seq ?_
      refine T_region ?_
      refine S_val rfl rfl (Y_addN rfl rfl (nat_cast _) (nat_lit' _) (by omega)) ?_
      refine S_val rfl rfl (Y_move rfl) ?_
      refine S_nil ?_
      obtain rfl : j = 4 - i := by omega
      refine X_loop ?_
      refine ⟨(i + 1, p), ⟨?_, ?_⟩, ?_, (by repeat (first | exact Env.sub_nil _ | (apply Env.sub_cons; rfl))), [], rfl⟩
      · dsimp only; omega
      · dsimp only
        rw [← mul_outer 18446744073709551616 4 i x y o hi ho, ← hp, show i + (4 - i) = 4 by omega, Nat.add_mul_mod_self_right]
      · dsimp only; omega
  · refine T_seq ?_
    refine T_region ?_
    refine S_val rfl rfl (Y_lss_f rfl rfl (by omega)) ?_
    refine S_nil ?_
    refine X_seq ?_
    refine T_seq ?_
    refine T_cond_false rfl ?_
    refine T_exit ?_
    refine X_seq_exit ?_
    refine X_loop_exit ?_
    refine X_blk_hit rfl ?_
    refine X_seq ?_
    refine T_seq ?_
    refine T_region ?_
    refine S_val rfl rfl (Y_loadAI 3 (und rfl) rfl rfl rfl (siz rfl) (dl_length _ _ _)) ?_
    refine S_storeAI 2 (siz rfl) rfl rfl rfl rfl (dl_length _ _ _) rfl ?_
    refine S_nil ?_
    refine X_seq ?_
    refine T_ret ?_
    obtain rfl : i = 4 := by omega
    ((first | refine X_fin_ret ?_ | refine X_fin ?_); exact ⟨[_], [], .cons (.agg 2 rfl (und rfl) rfl rfl (siz rfl)) .nil, Emb.nil _, by
          show W o = _
          unfold W
          rw [dl_eqmod (y := x * y % 2 ^ 256)]
          rw [ho, show 18446744073709551616 ^ 4 = 2 ^ 256 by decide, Nat.mod_mod, Nat.mul_mod, Nat.mod_mod, ← Nat.mul_mod], rfl⟩)

/-- How two numbers stand. -/
def cmpI (x y : Nat) : Int := if x < y then -1 else if x = y then 0 else 1
theorem compare_any (x y : Nat) (hx : x < 2 ^ 256) (hy : y < 2 ^ 256) (w : World) : Fn Tryd.prog 70 #[W x, W y] w fun v N => v = .int .i64 (cmpI x y) ∧ N = [] := by
  by_cases he : x = y
  · subst he
    have hd : dl 18446744073709551616 4 x = dl 18446744073709551616 4 x := rfl
    refine Fn_of (args := [W x, W x]) Tryd.func70 rfl Tryd.ntmps70 Tryd.results70 (by simp) ?_
    refine T_seq ?_
    refine T_region ?_
    refine S_boxA rfl rfl rfl fun _ => ?_
    refine S_boxA rfl rfl rfl fun _ => ?_
    refine S_val rfl rfl (Y_assign rfl) ?_
    refine S_nil ?_
    refine X_seq ?_
    refine T_seq ?_
    refine T_seq ?_
    refine T_region ?_
    refine S_val rfl rfl (Y_loadAI 0 (und rfl) rfl rfl rfl (siz rfl) (dl_length _ _ _)) ?_
    refine S_val rfl rfl (Y_loadAI 1 (und rfl) rfl rfl rfl (siz rfl) (dl_length _ _ _)) ?_
    refine S_val rfl rfl (Y_eqlA_t (eqg rfl) (und rfl) (und rfl) (siz rfl) rfl rfl (dl_length _ _ _) rfl) ?_
    refine S_nil ?_
    refine X_seq ?_
    refine T_cond_true rfl ?_
    refine T_seq ?_
    refine T_region ?_
    refine S_val rfl rfl (Y_assign rfl) ?_
    refine S_nil ?_
    refine X_seq ?_
    refine T_ret ?_
    refine X_seq_ret ?_
    ((first | refine X_fin_ret ?_ | refine X_fin ?_); exact ⟨[_], [], .cons (.tmp rfl) .nil, Emb.nil _, by unfold cmpI; simp [retOf], rfl⟩)
  · have hd : dl 18446744073709551616 4 x ≠ dl 18446744073709551616 4 y := fun h => he (dl_inj (by omega) (Nat.lt_of_lt_of_le hx (by decide)) (Nat.lt_of_lt_of_le hy (by decide)) h)
    refine Fn_of (args := [W x, W y]) Tryd.func70 rfl Tryd.ntmps70 Tryd.results70 (by simp) ?_
    refine T_seq ?_
    refine T_region ?_
    refine S_boxA rfl rfl rfl fun _ => ?_
    refine S_boxA rfl rfl rfl fun _ => ?_
    refine S_val rfl rfl (Y_assign rfl) ?_
    refine S_nil ?_
    refine X_seq ?_
    refine T_seq ?_
    refine T_seq ?_
    refine T_region ?_
    refine S_val rfl rfl (Y_loadAI 0 (und rfl) rfl rfl rfl (siz rfl) (dl_length _ _ _)) ?_
    refine S_val rfl rfl (Y_loadAI 1 (und rfl) rfl rfl rfl (siz rfl) (dl_length _ _ _)) ?_
    refine S_val rfl rfl (Y_eqlA_f (eqg rfl) (und rfl) (und rfl) (siz rfl) rfl rfl (dl_length _ _ _) (dl_length _ _ _) (by assumption)) ?_
    refine S_nil ?_
    refine X_seq ?_
    refine T_cond_false rfl ?_
    refine T_skip ?_
    refine X_seq ?_
    refine T_seq ?_
    refine T_region ?_
    refine S_val rfl rfl (Y_assign rfl) ?_
    refine S_nil ?_
    refine X_seq ?_
    refine T_seq ?_
    refine T_block ?_
    rename_i b0 b1
    refine T_loop (α := Nat) (fun j => j ≤ 3 ∧ x / 18446744073709551616 ^ (j + 1) = y / 18446744073709551616 ^ (j + 1))
      (fun j => [(2, .pointer (some ⟨b0, 0, none⟩)), (3, .pointer (some ⟨b1, 0, none⟩)), (5, .int .i64 j)])
      (fun j => [blk b0 (.cells (ints .u64 (dl 18446744073709551616 4 (x))) 47 (0, 0)), blk b1 (.cells (ints .u64 (dl 18446744073709551616 4 (y))) 47 (0, 0))]) (fun j => j) 3 ?_ (by repeat (first | exact Env.sub_nil _ | (apply Env.sub_cons; rfl))) [] rfl ?_
    · rw [Nat.div_eq_of_lt (Nat.lt_of_lt_of_le hx (by decide)), Nat.div_eq_of_lt (Nat.lt_of_lt_of_le hy (by decide))]; simp
    rintro j ⟨hj, hd⟩
    have ex : x / 18446744073709551616 ^ j = x / 18446744073709551616 ^ j % 18446744073709551616 + 18446744073709551616 * (x / 18446744073709551616 ^ (j + 1)) := by
      rw [Nat.pow_succ, ← Nat.div_div_eq_div_mul]; omega
    have ey : y / 18446744073709551616 ^ j = y / 18446744073709551616 ^ j % 18446744073709551616 + 18446744073709551616 * (y / 18446744073709551616 ^ (j + 1)) := by
      rw [Nat.pow_succ, ← Nat.div_div_eq_div_mul]; omega
    by_cases hq : x / 18446744073709551616 ^ j % 18446744073709551616 = y / 18446744073709551616 ^ j % 18446744073709551616
    · have hj0 : j ≠ 0 := by
        rintro rfl
        simp only [Nat.pow_zero, Nat.div_one] at ex ey hq
        omega
      refine T_seq ?_
      refine T_seq ?_
      refine T_draw (by kernel_rfl) (by kernel_rfl) rfl ?_
      refine D0_val rfl rfl rfl (Y_move rfl) ?_
      refine D0_val rfl rfl rfl (Y_ixa (und rfl) (siz rfl) rfl rfl (nat_cast _) (by omega)) ?_
      refine D0_valM rfl rfl rfl (Y_loadI 0 (und rfl) rfl rfl rfl (dl_get (by omega))) ?_
      refine D0_val rfl rfl rfl (Y_move rfl) ?_
      refine D0_val rfl rfl rfl (Y_ixa (und rfl) (siz rfl) rfl rfl (nat_cast _) (by omega)) ?_
      refine D0_valM rfl rfl rfl (Y_loadI 1 (und rfl) rfl rfl rfl (dl_get (by omega))) ?_
      refine D0_val rfl rfl rfl (Y_eql_t rfl rfl (by omega)) ?_
      refine D0_nil ?_
      refine X_seq ?_
      refine T_cond_true rfl ?_
      refine T_skip ?_
      refine X_seq ?_
      refine T_block ?_
      refine T_region ?_
      refine S_val rfl rfl (Y_move rfl) ?_
      refine S_val rfl rfl (Y_subN rfl rfl (nat_cast _) (nat_lit' _) (by omega) (by omega)) ?_
      refine S_val rfl rfl (Y_assign rfl) ?_
      refine S_nil ?_
      refine X_blk ?_
      refine X_loop ?_
      obtain ⟨i, rfl⟩ : ∃ i, j = i + 1 := ⟨j - 1, by omega⟩
      exact ⟨i, ⟨by omega, by omega⟩, by omega, (by repeat (first | exact Env.sub_nil _ | (apply Env.sub_cons; rfl))), [], rfl⟩
    · by_cases hl : x / 18446744073709551616 ^ j % 18446744073709551616 < y / 18446744073709551616 ^ j % 18446744073709551616
      · have hlt : x < y := by
          have h1 := Nat.div_add_mod x (18446744073709551616 ^ j)
          have h2 := Nat.div_add_mod y (18446744073709551616 ^ j)
          have h3 := Nat.mod_lt x (show 0 < 18446744073709551616 ^ j from Nat.pow_pos (by omega))
          have h4 : x / 18446744073709551616 ^ j + 1 ≤ y / 18446744073709551616 ^ j := by omega
          have := Nat.mul_le_mul_left (18446744073709551616 ^ j) h4
          rw [Nat.mul_add] at this
          omega
        refine T_seq ?_
        refine T_seq ?_
        refine T_draw (by kernel_rfl) (by kernel_rfl) rfl ?_
        refine D0_val rfl rfl rfl (Y_move rfl) ?_
        refine D0_val rfl rfl rfl (Y_ixa (und rfl) (siz rfl) rfl rfl (nat_cast _) (by omega)) ?_
        refine D0_valM rfl rfl rfl (Y_loadI 0 (und rfl) rfl rfl rfl (dl_get (by omega))) ?_
        refine D0_val rfl rfl rfl (Y_move rfl) ?_
        refine D0_val rfl rfl rfl (Y_ixa (und rfl) (siz rfl) rfl rfl (nat_cast _) (by omega)) ?_
        refine D0_valM rfl rfl rfl (Y_loadI 1 (und rfl) rfl rfl rfl (dl_get (by omega))) ?_
        refine D0_val rfl rfl rfl (Y_eql_f rfl rfl (by omega)) ?_
        refine D0_nil ?_
        refine X_seq ?_
        refine T_cond_false rfl ?_
        refine T_exit ?_
        refine X_seq_exit ?_
        refine X_loop_exit ?_
        refine X_blk_hit rfl ?_
        refine X_seq ?_
        refine T_seq ?_
        refine T_seq ?_
        refine T_draw (by kernel_rfl) (by kernel_rfl) rfl ?_
        refine D0_val rfl rfl rfl (Y_move rfl) ?_
        refine D0_val rfl rfl rfl (Y_ixa (und rfl) (siz rfl) rfl rfl (nat_cast _) (by omega)) ?_
        refine D0_valM rfl rfl rfl (Y_loadI 0 (und rfl) rfl rfl rfl (dl_get (by omega))) ?_
        refine D0_val rfl rfl rfl (Y_move rfl) ?_
        refine D0_val rfl rfl rfl (Y_ixa (und rfl) (siz rfl) rfl rfl (nat_cast _) (by omega)) ?_
        refine D0_valM rfl rfl rfl (Y_loadI 1 (und rfl) rfl rfl rfl (dl_get (by omega))) ?_
        refine D0_val rfl rfl rfl (Y_lss_t rfl rfl (by omega)) ?_
        refine D0_nil ?_
        refine X_seq ?_
        refine T_cond_true rfl ?_
        refine T_seq ?_
        refine T_region ?_
        refine S_val rfl rfl (Y_assign rfl) ?_
        refine S_nil ?_
        refine X_seq ?_
        refine T_ret ?_
        refine X_seq_ret ?_
        ((first | refine X_fin_ret ?_ | refine X_fin ?_); exact ⟨[_], [], .cons (.tmp rfl) .nil, Emb.nil _, by unfold cmpI; rw [if_pos hlt]; rfl, rfl⟩)
      · have hlt : y < x := by
          have h1 := Nat.div_add_mod x (18446744073709551616 ^ j)
          have h2 := Nat.div_add_mod y (18446744073709551616 ^ j)
          have h3 := Nat.mod_lt y (show 0 < 18446744073709551616 ^ j from Nat.pow_pos (by omega))
          have h4 : y / 18446744073709551616 ^ j + 1 ≤ x / 18446744073709551616 ^ j := by omega
          have := Nat.mul_le_mul_left (18446744073709551616 ^ j) h4
          rw [Nat.mul_add] at this
          omega
        refine T_seq ?_
        refine T_seq ?_
        refine T_draw (by kernel_rfl) (by kernel_rfl) rfl ?_
        refine D0_val rfl rfl rfl (Y_move rfl) ?_
        refine D0_val rfl rfl rfl (Y_ixa (und rfl) (siz rfl) rfl rfl (nat_cast _) (by omega)) ?_
        refine D0_valM rfl rfl rfl (Y_loadI 0 (und rfl) rfl rfl rfl (dl_get (by omega))) ?_
        refine D0_val rfl rfl rfl (Y_move rfl) ?_
        refine D0_val rfl rfl rfl (Y_ixa (und rfl) (siz rfl) rfl rfl (nat_cast _) (by omega)) ?_
        refine D0_valM rfl rfl rfl (Y_loadI 1 (und rfl) rfl rfl rfl (dl_get (by omega))) ?_
        refine D0_val rfl rfl rfl (Y_eql_f rfl rfl (by omega)) ?_
        refine D0_nil ?_
        refine X_seq ?_
        refine T_cond_false rfl ?_
        refine T_exit ?_
        refine X_seq_exit ?_
        refine X_loop_exit ?_
        refine X_blk_hit rfl ?_
        refine X_seq ?_
        refine T_seq ?_
        refine T_seq ?_
        refine T_draw (by kernel_rfl) (by kernel_rfl) rfl ?_
        refine D0_val rfl rfl rfl (Y_move rfl) ?_
        refine D0_val rfl rfl rfl (Y_ixa (und rfl) (siz rfl) rfl rfl (nat_cast _) (by omega)) ?_
        refine D0_valM rfl rfl rfl (Y_loadI 0 (und rfl) rfl rfl rfl (dl_get (by omega))) ?_
        refine D0_val rfl rfl rfl (Y_move rfl) ?_
        refine D0_val rfl rfl rfl (Y_ixa (und rfl) (siz rfl) rfl rfl (nat_cast _) (by omega)) ?_
        refine D0_valM rfl rfl rfl (Y_loadI 1 (und rfl) rfl rfl rfl (dl_get (by omega))) ?_
        refine D0_val rfl rfl rfl (Y_lss_f rfl rfl (by omega)) ?_
        refine D0_nil ?_
        refine X_seq ?_
        refine T_cond_false rfl ?_
        refine T_skip ?_
        refine X_seq ?_
        refine T_seq ?_
        refine T_region ?_
        refine S_val rfl rfl (Y_assign rfl) ?_
        refine S_nil ?_
        refine X_seq ?_
        refine T_ret ?_
        ((first | refine X_fin_ret ?_ | refine X_fin ?_); exact ⟨[_], [], .cons (.tmp rfl) .nil, Emb.nil _, by unfold cmpI; rw [if_neg (by omega), if_neg (by omega)]; rfl, rfl⟩)
end Go.Proofs.YtchoncjikdfbgaaDoor
