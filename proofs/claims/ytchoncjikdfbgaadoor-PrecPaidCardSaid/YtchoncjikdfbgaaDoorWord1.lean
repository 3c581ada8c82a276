import Derived.Test.YtchoncjikdfbgaaDoorTy
/- The calls of package word: what each hands back, as numbers. -/
namespace Go.Proofs.YtchoncjikdfbgaaDoor
open Go.RowKit
set_option maxRecDepth 10000
set_option maxHeartbeats 4000000

theorem run_ext {P : Program} {f : FuncId} {fn : Func} {e : Array Value → Sem Value} (hf : P.funcs[f]? = some fn) (hb : fn.body = none) (hnm : (fn.name == "runtime.NumGoroutine") = false) (hn : Extern.findNext fn = none) (he : Extern.find fn = some e)
    {args : Array Value} {w : World} {v : Value} (h : (e args).run P w = .ok v w) : (callFunc f args).run P w = .ok (.value v) w := by
  unfold callFunc
  simp only [Sem.run_bind, run_program, Result.andThen_ok, hf, hb, hn, he, hnm, Option.isNone_none, if_true, Bool.false_eq_true, if_false, run_mark, h, Sem.run_pure]

theorem three_eq (x y c : Nat) (nm : String) : Extern.MathBitsCarry.three nm #[.int .u64 x, .int .u64 y, .int .u64 c] = (do
      let c := (← asInt (.int .u64 c)).toNat
      if c > 1 then unsupported (.noEntry ("extern/math/bits." ++ nm ++ ": a carry that is neither 0 nor 1"))
      pure ((← asInt (.int .u64 x)).toNat, (← asInt (.int .u64 y)).toNat, c) : Sem (Nat × Nat × Nat)) := by kernel_rfl
theorem find_add64 : Extern.find Tryd.f46 = some (fun args => do
    let (x, y, c) ← Extern.MathBitsCarry.three "Add64" args
    pure (Extern.MathBitsCarry.pair ((x + y + c) % Extern.MathBitsCarry.m64) ((x + y + c) / Extern.MathBitsCarry.m64))) := by kernel_rfl
theorem findNext_add64 : Extern.findNext Tryd.f46 = none := by kernel_rfl
theorem name_add64 : (Tryd.f46.name == "runtime.NumGoroutine") = false := by kernel_rfl
theorem add64 (x y c : Nat) (hc : c ≤ 1) (w : World) : (callFunc 46 #[.int .u64 x, .int .u64 y, .int .u64 c]).run Tryd.prog w =
    .ok (.value (.tuple #[.int .u64 (((x + y + c) % 18446744073709551616 : Nat) : Int), .int .u64 (((x + y + c) / 18446744073709551616 : Nat) : Int)])) w := by
  refine run_ext Tryd.func46 rfl name_add64 findNext_add64 find_add64 ?_
  have : ¬ 1 < c := by omega
  rw [three_eq]
  simp only [Sem.run_bind, Sem.run_pure, Result.andThen_ok, asInt, asIntOf, Int.toNat_natCast]
  rw [if_neg this]
  simp only [Sem.run_pure, Result.andThen_ok, pure_bind, Int.toNat_natCast]
  rfl
theorem find_sub64 : Extern.find Tryd.f81 = some (fun args => do
    let (x, y, b) ← Extern.MathBitsCarry.three "Sub64" args
    pure (Extern.MathBitsCarry.pair ((x + Extern.MathBitsCarry.m64 - y - b) % Extern.MathBitsCarry.m64) (if x < y + b then 1 else 0))) := by kernel_rfl
theorem findNext_sub64 : Extern.findNext Tryd.f81 = none := by kernel_rfl
theorem name_sub64 : (Tryd.f81.name == "runtime.NumGoroutine") = false := by kernel_rfl
theorem sub64 (x y c : Nat) (hc : c ≤ 1) (w : World) : (callFunc 81 #[.int .u64 x, .int .u64 y, .int .u64 c]).run Tryd.prog w =
    .ok (.value (.tuple #[.int .u64 (((x + 18446744073709551616 - (y + c)) % 18446744073709551616 : Nat) : Int), .int .u64 (((if x < y + c then 1 else 0) : Nat) : Int)])) w := by
  refine run_ext Tryd.func81 rfl name_sub64 findNext_sub64 find_sub64 ?_
  have : ¬ 1 < c := by omega
  have e : x + 2 ^ 64 - y - c = x + 18446744073709551616 - (y + c) := by omega
  rw [three_eq]
  simp only [Sem.run_bind, Sem.run_pure, Result.andThen_ok, asInt, asIntOf, Int.toNat_natCast]
  rw [if_neg this]
  simp only [Sem.run_pure, Result.andThen_ok, pure_bind, Int.toNat_natCast, Extern.MathBitsCarry.m64]
  rw [e]
  rfl

theorem carry_step {b P r t : Nat} (hP : 0 < P) (hr : r < P) : (r + t * P) % (P * b) = r + t % b * P ∧ (r + t * P) / (P * b) = t / b := by
  constructor
  · rw [Nat.mod_mul, Nat.add_mul_mod_self_right, Nat.mod_eq_of_lt hr, Nat.add_mul_div_right _ _ hP, Nat.div_eq_of_lt hr, Nat.zero_add, Nat.mul_comm]
  · rw [← Nat.div_div_eq_div_mul, Nat.add_mul_div_right _ _ hP, Nat.div_eq_of_lt hr, Nat.zero_add]
theorem mod_pow_succ' (x b i : Nat) : x % b ^ (i + 1) = x % b ^ i + x / b ^ i % b * b ^ i := by
  rw [Nat.pow_succ, Nat.mod_mul, Nat.mul_comm (b ^ i)]
/-- One digit more of a sum. -/
theorem add_step (b i x y : Nat) (hb : 0 < b) : let s := x % b ^ i + y % b ^ i; let t := x / b ^ i % b + y / b ^ i % b + s / b ^ i
    (x % b ^ (i + 1) + y % b ^ (i + 1)) % b ^ (i + 1) = s % b ^ i + t % b * b ^ i ∧ (x % b ^ (i + 1) + y % b ^ (i + 1)) / b ^ (i + 1) = t / b := by
  intro s t
  have hP : 0 < b ^ i := Nat.pow_pos hb
  have e : x % b ^ (i + 1) + y % b ^ (i + 1) = s % b ^ i + t * b ^ i := by
    rw [mod_pow_succ', mod_pow_succ']
    have := Nat.div_add_mod s (b ^ i)
    simp only [t, Nat.add_mul]
    rw [Nat.mul_comm (b ^ i)] at this
    omega
  rw [e, Nat.pow_succ]
  exact carry_step hP (Nat.mod_lt _ hP)

theorem add_any (x y : Nat) (_hx : x < 2 ^ 256) (_hy : y < 2 ^ 256) (w : World) : Fn Tryd.prog 29 #[W x, W y] w fun v N => v = W ((x + y) % 2 ^ 256) ∧ N = [] := by
  refine Fn_of (args := [W x, W y]) Tryd.func29 rfl Tryd.ntmps29 Tryd.results29 (by simp) ?_
  refine T_seq ?_
  refine T_region ?_
  refine S_boxA rfl rfl rfl fun _ => ?_
  refine S_boxA rfl rfl rfl fun _ => ?_
  refine S_allocA (zer rfl) rfl rfl fun _ => ?_
  refine S_nil ?_
  refine X_seq ?_
  refine T_seq ?_
  refine T_region ?_
  refine S_allocA (zer rfl) rfl rfl fun _ => ?_
  refine S_nil ?_
  refine X_seq ?_
  refine T_seq ?_
  refine T_region ?_
  refine S_val rfl rfl (Y_assign rfl) ?_
  refine S_nil ?_
  refine X_seq ?_
  refine T_seq ?_
  refine T_seq ?_
  refine T_region ?_
  refine S_val rfl rfl (Y_move rfl) ?_
  refine S_nil ?_
  refine X_seq ?_
  refine T_block ?_
  rename_i b0 b1 b2 b3
  refine T_loop (α := Nat × Nat × Nat) (fun a => a.1 ≤ 4 ∧ a.2.1 = (x % 18446744073709551616 ^ a.1 + y % 18446744073709551616 ^ a.1) / 18446744073709551616 ^ a.1 ∧ a.2.2 = (x % 18446744073709551616 ^ a.1 + y % 18446744073709551616 ^ a.1) % 18446744073709551616 ^ a.1)
    (fun a => [(2, .pointer (some ⟨b0, 0, none⟩)), (3, .pointer (some ⟨b1, 0, none⟩)), (4, .pointer (some ⟨b2, 0, none⟩)), (5, .pointer (some ⟨b3, 0, none⟩)), (6, .int .u64 a.2.1), (10, .int .i64 a.1)])
    (fun a => [blk b0 (.cells (ints .u64 (dl 18446744073709551616 4 x)) 47 (0, 0)), blk b1 (.cells (ints .u64 (dl 18446744073709551616 4 y)) 47 (0, 0)),
      blk b2 (.cells (ints .u64 (List.replicate 4 0)) 47 (0, 0)), blk b3 (.cells (ints .u64 (dl 18446744073709551616 4 a.2.2)) 47 (0, 0))])
    (fun a => 4 - a.1) (0, 0, 0) (by simp [Nat.mod_one]) (by repeat (first | exact Env.sub_nil _ | (apply Env.sub_cons; rfl))) [] rfl ?_
  rintro ⟨i, c, s⟩ ⟨hi, hc, hs⟩
  dsimp only at hi hc hs ⊢
  obtain ⟨h1, h2⟩ := add_step 18446744073709551616 i x y (by omega)
  rw [← hc] at h1 h2
  rw [← hs] at h1
  have hP : 0 < 18446744073709551616 ^ i := Nat.pow_pos (by omega)
  have hs' : s < 18446744073709551616 ^ i := by rw [hs]; exact Nat.mod_lt _ hP
  have hc' : c ≤ 1 := by
    have := Nat.mod_lt x hP
    have := Nat.mod_lt y hP
    rw [hc]
    exact Nat.le_of_lt_succ (Nat.div_lt_of_lt_mul (by omega))
  refine T_seq ?_
  refine T_region ?_
  refine S_val rfl rfl (Y_lss rfl rfl) ?_
  refine S_nil ?_
  refine X_seq ?_
  refine T_seq ?_
  refine T_if rfl (fun h => ?_) (fun h => ?_)
  · refine T_skip ?_
    refine X_seq ?_
    refine T_seq ?_
    refine T_block ?_
    refine T_seq ?_
    refine T_region ?_
    refine S_val rfl rfl (Y_move rfl) ?_
    refine S_val rfl rfl (Y_assign rfl) ?_
    refine S_nil ?_
    refine X_seq ?_
    refine T_seq ?_
    refine T_draw (by kernel_rfl) (by kernel_rfl) rfl ?_
    refine D0_val rfl rfl rfl (Y_move rfl) ?_
    refine D0_val rfl rfl rfl (Y_ixa (und rfl) (siz rfl) rfl rfl (nat_cast _) (by omega)) ?_
    refine D0_valM rfl rfl rfl (Y_loadI 0 (und rfl) rfl rfl rfl (dl_get (by omega))) ?_
    refine D0_val rfl rfl rfl (Y_move rfl) ?_
    refine D0_val rfl rfl rfl (Y_ixa (und rfl) (siz rfl) rfl rfl (nat_cast _) (by omega)) ?_
    refine D0_valM rfl rfl rfl (Y_loadI 1 (und rfl) rfl rfl rfl (dl_get (by omega))) ?_
    refine D0_val rfl rfl rfl (Y_move rfl) ?_
    refine D0_valM rfl rfl rfl (Y_ext rfl rfl fun w => add64 _ _ _ hc' _) ?_
    refine D0_val rfl rfl rfl (Y_move rfl) ?_
    refine D0_val rfl rfl rfl (Y_extract rfl rfl) ?_
    refine D0_val rfl rfl rfl (Y_extract rfl rfl) ?_
    refine D0_val rfl rfl rfl (Y_assign rfl) ?_
    refine D0_val rfl rfl rfl (Y_assign rfl) ?_
    refine D0_nil ?_
    refine X_seq ?_
    refine T_seq ?_
    refine T_region ?_
    refine S_val rfl rfl (Y_move rfl) ?_
    refine S_val rfl rfl (Y_move rfl) ?_
    refine S_val rfl rfl (Y_ixa (und rfl) (siz rfl) rfl rfl (nat_cast _) (by omega)) ?_
    refine S_storeI 3 (siz rfl) rfl rfl rfl (by simp; omega) rfl rfl ?_
    refine S_nil ?_
    refine X_seq ?_
    refine T_region ?_
    refine S_val rfl rfl (Y_move rfl) ?_
    refine S_val rfl rfl (Y_assign rfl) ?_
    refine S_nil ?_
    refine X_blk ?_
    refine X_seq ?_
    refine T_region ?_
    refine S_val rfl rfl (Y_addN rfl rfl (nat_cast _) (nat_lit' _) (by omega)) ?_
    refine S_val rfl rfl (Y_move rfl) ?_
    refine S_nil ?_
    refine X_loop ?_
    refine ⟨(i + 1, _, _), ⟨by dsimp only; omega, h2.symm, h1.symm⟩, by dsimp only; omega, (by repeat (first | exact Env.sub_nil _ | (apply Env.sub_cons; rfl))), [], ?_⟩
    rw [dl_set (by omega) hs' (Nat.mod_lt _ (by omega))]
    rfl
  · refine T_exit ?_
    refine X_seq_exit ?_
    refine X_loop_exit ?_
    refine X_blk_hit rfl ?_
    refine X_seq ?_
    refine T_seq ?_
    refine T_region ?_
    refine S_val rfl rfl (Y_loadAI 3 (und rfl) rfl rfl rfl (siz rfl) (dl_length _ _ _)) ?_
    refine S_storeAI 2 (siz rfl) rfl rfl rfl rfl (dl_length _ _ _) rfl ?_
    refine S_nil ?_
    refine X_seq ?_
    refine T_ret ?_
    obtain rfl : i = 4 := by omega
    refine X_fin_ret ?_
    exact ⟨[_], [], .cons (.agg 2 rfl (und rfl) rfl rfl (siz rfl)) .nil, Emb.nil _, W_congr (by rw [hs, ← Nat.add_mod]), rfl⟩

theorem sub_any (x y : Nat) (hx : x < 2 ^ 256) (hy : y < 2 ^ 256) (w : World) : Fn Tryd.prog 71 #[W x, W y] w fun v N => v = W ((x + 2 ^ 256 - y) % 2 ^ 256) ∧ N = [] := by
  refine Fn_of (args := [W x, W y]) Tryd.func71 rfl Tryd.ntmps71 Tryd.results71 (by simp) ?_
  refine T_seq ?_
  refine T_region ?_
  refine S_boxA rfl rfl rfl fun _ => ?_
  refine S_boxA rfl rfl rfl fun _ => ?_
  refine S_allocA (zer rfl) rfl rfl fun _ => ?_
  refine S_nil ?_
  refine X_seq ?_
  refine T_seq ?_
  refine T_region ?_
  refine S_allocA (zer rfl) rfl rfl fun _ => ?_
  refine S_nil ?_
  refine X_seq ?_
  refine T_seq ?_
  refine T_region ?_
  refine S_val rfl rfl (Y_assign rfl) ?_
  refine S_nil ?_
  refine X_seq ?_
  refine T_seq ?_
  refine T_seq ?_
  refine T_region ?_
  refine S_val rfl rfl (Y_move rfl) ?_
  refine S_nil ?_
  refine X_seq ?_
  refine T_block ?_
  rename_i b0 b1 b2 b3
  refine T_loop (α := Nat × Nat × Nat) (fun a => a.1 ≤ 4 ∧ a.2.1 ≤ 1 ∧ a.2.2 < 18446744073709551616 ^ a.1 ∧ x % 18446744073709551616 ^ a.1 + a.2.1 * 18446744073709551616 ^ a.1 = y % 18446744073709551616 ^ a.1 + a.2.2)
    (fun a => [(2, .pointer (some ⟨b0, 0, none⟩)), (3, .pointer (some ⟨b1, 0, none⟩)), (4, .pointer (some ⟨b2, 0, none⟩)), (5, .pointer (some ⟨b3, 0, none⟩)), (6, .int .u64 a.2.1), (10, .int .i64 a.1)])
    (fun a => [blk b0 (.cells (ints .u64 (dl 18446744073709551616 4 (x))) 47 (0, 0)), blk b1 (.cells (ints .u64 (dl 18446744073709551616 4 (y))) 47 (0, 0)), blk b2 (.cells (ints .u64 (List.replicate 4 0)) 47 (0, 0)), blk b3 (.cells (ints .u64 (dl 18446744073709551616 4 (a.2.2))) 47 (0, 0))])
    (fun a => 4 - a.1) (0, 0, 0) (by simp [Nat.mod_one]) (by repeat (first | exact Env.sub_nil _ | (apply Env.sub_cons; rfl))) [] rfl ?_
  rintro ⟨i, c, s⟩ ⟨hi, hc, hs, he⟩
  dsimp only at hi hc hs he ⊢
  have hP : 0 < 18446744073709551616 ^ i := Nat.pow_pos (by omega)
  by_cases h : i < 4
  · refine T_seq ?_
    refine T_region ?_
    refine S_val rfl rfl (Y_lss_t rfl rfl (by omega)) ?_
    refine S_nil ?_
    refine X_seq ?_
    refine T_seq ?_
    refine T_cond_true rfl ?_
    refine T_skip ?_
    refine X_seq ?_
    refine T_seq ?_
    refine T_block ?_
    refine T_seq ?_
    refine T_region ?_
    refine S_val rfl rfl (Y_move rfl) ?_
    refine S_val rfl rfl (Y_assign rfl) ?_
    refine S_nil ?_
    refine X_seq ?_
    refine T_seq ?_
    refine T_draw (by kernel_rfl) (by kernel_rfl) rfl ?_
    refine D0_val rfl rfl rfl (Y_move rfl) ?_
    refine D0_val rfl rfl rfl (Y_ixa (und rfl) (siz rfl) rfl rfl (nat_cast _) (by assumption)) ?_
    refine D0_valM rfl rfl rfl (Y_loadI 0 (und rfl) rfl rfl rfl (dl_get (by assumption))) ?_
    refine D0_val rfl rfl rfl (Y_move rfl) ?_
    refine D0_val rfl rfl rfl (Y_ixa (und rfl) (siz rfl) rfl rfl (nat_cast _) (by assumption)) ?_
    refine D0_valM rfl rfl rfl (Y_loadI 1 (und rfl) rfl rfl rfl (dl_get (by assumption))) ?_
    refine D0_val rfl rfl rfl (Y_move rfl) ?_
    refine D0_valM rfl rfl rfl (Y_ext rfl rfl fun w => sub64 _ _ _ hc _) ?_
    refine D0_val rfl rfl rfl (Y_move rfl) ?_
    refine D0_val rfl rfl rfl (Y_extract rfl rfl) ?_
    refine D0_val rfl rfl rfl (Y_extract rfl rfl) ?_
    refine D0_val rfl rfl rfl (Y_assign rfl) ?_
    refine D0_val rfl rfl rfl (Y_assign rfl) ?_
    refine D0_nil ?_
    refine X_seq ?_
    refine T_seq ?_
    refine T_region ?_
    refine S_val rfl rfl (Y_move rfl) ?_
    refine S_val rfl rfl (Y_move rfl) ?_
    refine S_val rfl rfl (Y_ixa (und rfl) (siz rfl) rfl rfl (nat_cast _) (by assumption)) ?_
    refine S_storeI 3 (siz rfl) rfl rfl rfl (by simp; omega) rfl rfl ?_
    refine S_nil ?_
    refine X_seq ?_
    refine T_region ?_
    refine S_val rfl rfl (Y_move rfl) ?_
    refine S_val rfl rfl (Y_assign rfl) ?_
    refine S_nil ?_
    refine X_blk ?_
    refine X_seq ?_
    refine T_region ?_
    refine S_val rfl rfl (Y_addN rfl rfl (nat_cast _) (nat_lit' _) (by omega)) ?_
    refine S_val rfl rfl (Y_move rfl) ?_
    refine S_nil ?_
    have hd := Nat.mod_lt (x / 18446744073709551616 ^ i) (show 0 < 18446744073709551616 by omega)
    have hd' := Nat.mod_lt (y / 18446744073709551616 ^ i) (show 0 < 18446744073709551616 by omega)
    have e1 := mod_pow_succ' x 18446744073709551616 i
    have e2 := mod_pow_succ' y 18446744073709551616 i
    have e3 : (18446744073709551616 : Nat) ^ (i + 1) = 18446744073709551616 * 18446744073709551616 ^ i := by rw [Nat.pow_succ, Nat.mul_comm]
    generalize hxi : x / 18446744073709551616 ^ i % 18446744073709551616 = xi at *
    generalize hyi : y / 18446744073709551616 ^ i % 18446744073709551616 = yi at *
    have hdl : (xi + 18446744073709551616 - (yi + c)) % 18446744073709551616 < 18446744073709551616 := Nat.mod_lt _ (by omega)
    have key : xi + (if xi < yi + c then 1 else 0) * 18446744073709551616 = yi + c + (xi + 18446744073709551616 - (yi + c)) % 18446744073709551616 := by
      split <;> omega
    refine X_loop ?_
    refine ⟨(i + 1, (if xi < yi + c then 1 else 0), s + (xi + 18446744073709551616 - (yi + c)) % 18446744073709551616 * 18446744073709551616 ^ i), ⟨by dsimp only; omega, by dsimp only; split <;> omega, ?_, ?_⟩, by dsimp only; omega, (by repeat (first | exact Env.sub_nil _ | (apply Env.sub_cons; rfl))), [], ?_⟩
    · dsimp only
      rw [e3]
      have := Nat.mul_le_mul_right (18446744073709551616 ^ i) (show (xi + 18446744073709551616 - (yi + c)) % 18446744073709551616 + 1 ≤ 18446744073709551616 from hdl)
      rw [Nat.succ_mul] at this
      omega
    · dsimp only
      rw [e1, e2, e3, ← Nat.mul_assoc]
      have := congrArg (· * 18446744073709551616 ^ i) key
      simp only [Nat.add_mul] at this
      omega
    · rw [dl_set (by omega) hs (Nat.mod_lt _ (by omega))]
      rfl
  · refine T_seq ?_
    refine T_region ?_
    refine S_val rfl rfl (Y_lss_f rfl rfl (by omega)) ?_
    refine S_nil ?_
    refine X_seq ?_
    refine T_seq ?_
    refine T_cond_false rfl ?_
    refine T_exit ?_
    refine X_seq_exit ?_
    refine X_loop_exit ?_
    refine X_blk_hit rfl ?_
    refine X_seq ?_
    refine T_seq ?_
    refine T_region ?_
    refine S_val rfl rfl (Y_loadAI 3 (und rfl) rfl rfl rfl (siz rfl) (dl_length _ _ _)) ?_
    refine S_storeAI 2 (siz rfl) rfl rfl rfl rfl (dl_length _ _ _) rfl ?_
    refine S_nil ?_
    refine X_seq ?_
    refine T_ret ?_
    obtain rfl : i = 4 := by omega
    ((first | refine X_fin_ret ?_ | refine X_fin ?_); exact ⟨[_], [], .cons (.agg 2 rfl (und rfl) rfl rfl (siz rfl)) .nil, Emb.nil _, W_congr (by rw [show 18446744073709551616 ^ 4 = 2 ^ 256 by decide, Nat.mod_eq_of_lt hx, Nat.mod_eq_of_lt hy] at *; omega), rfl⟩)

theorem digit_bits (x i j : Nat) : (x / 18446744073709551616 ^ i % 18446744073709551616).testBit j = (decide (j < 64) && x.testBit (64 * i + j)) := by
  rw [show (18446744073709551616 : Nat) = 2 ^ 64 by decide, ← Nat.pow_mul, Nat.testBit_mod_two_pow, Nat.testBit_div_two_pow, Nat.add_comm]
theorem dl4 (x : Nat) : dl 18446744073709551616 4 x = [((x / 18446744073709551616 ^ 0 % 18446744073709551616 : Nat) : Int), ((x / 18446744073709551616 ^ 1 % 18446744073709551616 : Nat) : Int), ((x / 18446744073709551616 ^ 2 % 18446744073709551616 : Nat) : Int), ((x / 18446744073709551616 ^ 3 % 18446744073709551616 : Nat) : Int)] := rfl
theorem digit_lt (x i : Nat) : x / 18446744073709551616 ^ i % 18446744073709551616 < 18446744073709551616 := Nat.mod_lt _ (by omega)
theorem and_digit (x y i : Nat) : (x &&& y) / 18446744073709551616 ^ i % 18446744073709551616 = (x / 18446744073709551616 ^ i % 18446744073709551616) &&& (y / 18446744073709551616 ^ i % 18446744073709551616) := by
  apply Nat.eq_of_testBit_eq
  intro j
  simp only [digit_bits, Nat.testBit_and]
  cases decide (j < 64) <;> simp
theorem or_digit (x y i : Nat) : (x ||| y) / 18446744073709551616 ^ i % 18446744073709551616 = (x / 18446744073709551616 ^ i % 18446744073709551616) ||| (y / 18446744073709551616 ^ i % 18446744073709551616) := by
  apply Nat.eq_of_testBit_eq
  intro j
  simp only [digit_bits, Nat.testBit_or]
  cases decide (j < 64) <;> simp
theorem xor_digit (x y i : Nat) : (x ^^^ y) / 18446744073709551616 ^ i % 18446744073709551616 = (x / 18446744073709551616 ^ i % 18446744073709551616) ^^^ (y / 18446744073709551616 ^ i % 18446744073709551616) := by
  apply Nat.eq_of_testBit_eq
  intro j
  simp only [digit_bits, Nat.testBit_xor]
  cases decide (j < 64) <;> simp
theorem not_digit (x i : Nat) (hx : x < 2 ^ 256) (hi : i < 4) : (2 ^ 256 - 1 - x) / 18446744073709551616 ^ i % 18446744073709551616 = 2 ^ IntKind.u64.bits - 1 - x / 18446744073709551616 ^ i % 18446744073709551616 := by
  have h1 := digit_lt x i
  apply Nat.eq_of_testBit_eq
  intro j
  rw [digit_bits, show 2 ^ 256 - 1 - x = 2 ^ 256 - (x + 1) by omega, Nat.testBit_two_pow_sub_succ hx]
  rw [show 2 ^ IntKind.u64.bits - 1 - x / 18446744073709551616 ^ i % 18446744073709551616 = 2 ^ 64 - (x / 18446744073709551616 ^ i % 18446744073709551616 + 1) by simp only [IntKind.bits]; omega, Nat.testBit_two_pow_sub_succ (by omega), digit_bits]
  by_cases hj : j < 64
  · simp [hj, show 64 * i + j < 256 by omega]
  · simp [hj]

theorem of_any (n : Nat) (hn : n < 18446744073709551616) (w : World) : Fn Tryd.prog 25 #[.int .u64 n] w fun v N => v = W n ∧ N = [] := by
  refine Fn_of (args := [.int .u64 n]) Tryd.func25 rfl Tryd.ntmps25 Tryd.results25 (by simp) ?_
  refine T_seq ?_
  refine T_region ?_
  refine S_allocA (zer rfl) rfl rfl fun _ => ?_
  refine S_nil ?_
  refine X_seq ?_
  refine T_seq ?_
  refine T_region ?_
  refine S_val rfl rfl (Y_move rfl) ?_
  refine S_val rfl rfl (Y_build (und rfl) (siz rfl) (zer rfl) rfl rfl) ?_
  refine S_storeAI 0 (siz rfl) rfl rfl rfl rfl rfl rfl ?_
  refine S_nil ?_
  refine X_seq ?_
  refine T_ret ?_
  ((first | refine X_fin_ret ?_ | refine X_fin ?_); exact ⟨[_], [], .cons (.agg 0 rfl (und rfl) rfl rfl (siz rfl)) .nil, Emb.nil _, by
        have h1 : n / 18446744073709551616 ^ 1 = 0 := Nat.div_eq_of_lt (by omega)
        have h2 : n / 18446744073709551616 ^ 2 = 0 := Nat.div_eq_of_lt (by omega)
        have h3 : n / 18446744073709551616 ^ 3 = 0 := Nat.div_eq_of_lt (by omega)
        unfold W; rw [dl4, h1, h2, h3, Nat.pow_zero, Nat.div_one, Nat.mod_eq_of_lt hn]; rfl, rfl⟩)
end Go.Proofs.YtchoncjikdfbgaaDoor
