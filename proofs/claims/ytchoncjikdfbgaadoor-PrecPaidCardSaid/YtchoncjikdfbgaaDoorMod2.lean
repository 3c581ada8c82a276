import Derived.Test.YtchoncjikdfbgaaDoorMod1
/- Package modexp: numbers to the base 2^32; the second half. -/
namespace Go.Proofs.YtchoncjikdfbgaaDoor
open Go.RowKit
set_option maxRecDepth 20000
set_option maxHeartbeats 4000000

theorem put32_lt {b p l t N : Nat} (hb : 0 < b) (hp : p < b ^ N) (hl : l < b) (ht : t < N) : p - p / b ^ t % b * b ^ t + l * b ^ t < b ^ N := by
  have h1 := split_at b t p
  have h2 : p / b ^ (t + 1) < b ^ (N - (t + 1)) := Nat.div_lt_of_lt_mul (by rw [← Nat.pow_add, show t + 1 + (N - (t + 1)) = N by omega]; exact hp)
  have h3 : p % b ^ t < b ^ t := Nat.mod_lt _ (Nat.pow_pos hb)
  have h4 : (p / b ^ (t + 1) + 1) * b ^ (t + 1) ≤ b ^ (N - (t + 1)) * b ^ (t + 1) := Nat.mul_le_mul_right _ h2
  rw [← Nat.pow_add, show N - (t + 1) + (t + 1) = N by omega, Nat.add_mul, Nat.one_mul] at h4
  have h5 : l * b ^ t + b ^ t ≤ b ^ (t + 1) := by
    have := Nat.mul_le_mul_right (b ^ t) hl
    rw [Nat.succ_mul] at this
    rwa [Nat.pow_succ, Nat.mul_comm _ b]
  clear h2
  generalize p % b ^ t = g at *
  generalize p / b ^ (t + 1) * b ^ (t + 1) = i at *
  generalize p / b ^ t % b * b ^ t = h at *
  omega
theorem mtimes_any (x y n m : Nat) (hx : x < 4294967296 ^ n) (hy : y < 4294967296 ^ m) (hn : n ≤ 400000) (hm : m ≤ 400000) (v u : Value) (w : World) (hv : Rd w v .u32 (dl 4294967296 n x)) (hu : Rd w u .u32 (dl 4294967296 m y)) :
    Fn Tryd.prog 59 #[v, u] w fun r N => N = [row .u32 (dl 4294967296 (tr (x * y)) (x * y)) r] := by
  refine Fn_of (args := [v, u]) Tryd.func59 rfl Tryd.ntmps59 Tryd.results59 (by simp) ?_
  refine T_seq ?_
  refine T_region ?_
  refine S_val rfl rfl (Y_assign rfl) ?_
  refine S_nil ?_
  refine X_seq ?_
  refine T_seq ?_
  refine T_region ?_
  refine S_val rfl rfl (Y_move rfl) ?_
  refine S_val rfl rfl (Y_lenV rfl (und rfl) rfl (fun _ hs => Rd.st (by assumption) hs) (dl_length _ _ _)) ?_
  refine S_val rfl rfl (Y_move rfl) ?_
  refine S_val rfl rfl (Y_lenV rfl (und rfl) rfl (fun _ hs => Rd.st (by assumption) hs) (dl_length _ _ _)) ?_
  refine S_val rfl rfl (Y_addN rfl rfl (nat_cast _) (nat_cast _) (by omega)) ?_
  refine S_makeR (und rfl) (siz rfl) (byt rfl) (zer rfl) rfl rfl (nat_cast _) (by omega) rfl rfl rfl fun _ => ?_
  refine S_val rfl rfl (Y_assign rfl) ?_
  refine S_nil ?_
  refine X_seq ?_
  refine T_seq ?_
  refine T_seq ?_
  refine T_region ?_
  refine S_val rfl rfl (Y_move rfl) ?_
  refine S_val rfl rfl (Y_lenV rfl (und rfl) rfl (fun _ hs => Rd.st (by assumption) hs) (dl_length _ _ _)) ?_
  refine S_val rfl rfl (Y_move rfl) ?_
  refine S_nil ?_
  refine X_seq ?_
  refine T_block ?_
  rename_i vo
  refine T_loop (α := Nat × Nat) (fun a => a.1 ≤ n ∧ a.2 = x % 4294967296 ^ a.1 * y)
    (fun a => [(0, v), (1, u), (5, vo), (18, v), (19, .int .i64 n), (20, .int .i64 a.1)])
    (fun a => [row .u32 (dl 4294967296 (n + m) a.2) vo])
    (fun a => n - a.1) (0, 0) (by simp [Nat.mod_one]) (by repeat (first | exact Env.sub_nil _ | (apply Env.sub_cons; rfl))) [] (by dsimp only; rw [dl_zero]; rfl) ?_
  rintro ⟨i, o⟩ ⟨hi, ho⟩
  dsimp only at hi ho ⊢
  refine T_sh 0 rfl fun hsh => ?_
  rw [dl_length] at hsh
  by_cases h : i < n
  · have hxi := dig32_lt x i
    have ho2 : o < 4294967296 ^ (i + m) := by
      rw [ho, Nat.pow_add]
      exact Nat.mul_lt_mul'' (Nat.mod_lt _ (Nat.pow_pos (by omega))) hy
    have hfin : ∀ p c, p + c * 4294967296 ^ (i + m) = o + x / 4294967296 ^ i % 4294967296 * (y % 4294967296 ^ m) * 4294967296 ^ i → p + c * 4294967296 ^ (i + m) = x % 4294967296 ^ (i + 1) * y := fun p c hp => by
      rw [hp, Nat.mod_eq_of_lt hy, ho, mod_pow_succ', Nat.add_mul, Nat.mul_right_comm]
    clear hx ho
    refine T_seq ?_
    refine T_region ?_
    refine S_val rfl rfl (Y_lss_t rfl rfl (by omega)) ?_
    refine S_nil ?_
    refine X_seq ?_
    refine T_seq ?_
    refine T_cond_true rfl ?_
    refine T_skip ?_
    refine X_seq ?_
    refine T_seq ?_
    refine T_block ?_
    refine T_seq ?_
    refine T_region ?_
    refine S_val rfl rfl (Y_move rfl) ?_
    refine S_val rfl rfl (Y_ixV (und rfl) (siz rfl) rfl rfl (fun _ hs => Rd.st (by assumption) hs) (nat_cast _) (dl_lt (by assumption))) ?_
    refine S_val rfl rfl (Y_loadV (und rfl) rfl rfl (fun _ hs => Rd.st (by assumption) hs) (dl_get (by assumption))) ?_
    refine S_val rfl rfl (Y_assign rfl) ?_
    refine S_val rfl rfl (Y_assign rfl) ?_
    refine S_nil ?_
    refine X_seq ?_
    refine T_seq ?_
    refine T_region ?_
    refine S_val rfl rfl (Y_assign rfl) ?_
    refine S_nil ?_
    refine X_seq ?_
    refine T_seq ?_
    refine T_seq ?_
    refine T_region ?_
    refine S_val rfl rfl (Y_move rfl) ?_
    refine S_val rfl rfl (Y_lenV rfl (und rfl) rfl (fun _ hs => Rd.st (by assumption) hs) (dl_length _ _ _)) ?_
    refine S_val rfl rfl (Y_move rfl) ?_
    refine S_nil ?_
    refine X_seq ?_
    refine T_block ?_
    generalize hX : x / 4294967296 ^ i % 4294967296 = xi at *
    clear hX
    refine T_loop (α := Nat × Nat × Nat) (fun a => a.1 ≤ m ∧ a.2.1 < 4294967296 ∧ a.2.2 < 4294967296 ^ (i + m) ∧ a.2.2 + a.2.1 * 4294967296 ^ (i + a.1) = o + xi * (y % 4294967296 ^ a.1) * 4294967296 ^ i)
      (fun a => [(0, v), (1, u), (5, vo), (6, .int .i64 i), (7, .int .u32 xi), (8, .int .u64 a.2.1), (18, v), (19, .int .i64 n), (20, .int .i64 i), (25, u), (26, .int .i64 m), (27, .int .i64 a.1)])
      (fun a => [row .u32 (dl 4294967296 (n + m) a.2.2) vo])
      (fun a => m - a.1) (0, 0, o) ⟨by dsimp only; omega, by dsimp only; omega, ho2, by simp [Nat.mod_one]⟩ (by repeat (first | exact Env.sub_nil _ | (apply Env.sub_cons; rfl))) [] rfl ?_
    rintro ⟨j, c, p⟩ ⟨hj, hc, hpl, hp⟩
    dsimp only at hj hc hpl hp ⊢
    by_cases h1 : j < m
    · have hyj := dig32_lt y j
      have hpj := dig32_lt p (i + j)
      have hxy : xi * (y / 4294967296 ^ j % 4294967296) ≤ 4294967295 * 4294967295 := Nat.mul_le_mul (by omega) (by omega)
      have hb : i + j < n + m := by omega
      have hstep : (p - p / 4294967296 ^ (i + j) % 4294967296 * 4294967296 ^ (i + j) + (xi * (y / 4294967296 ^ j % 4294967296) + p / 4294967296 ^ (i + j) % 4294967296 + c) % 4294967296 * 4294967296 ^ (i + j)) + (xi * (y / 4294967296 ^ j % 4294967296) + p / 4294967296 ^ (i + j) % 4294967296 + c) / 4294967296 * 4294967296 ^ (i + (j + 1)) = o + xi * (y % 4294967296 ^ (j + 1)) * 4294967296 ^ i := by
        have hs := split_at 4294967296 (i + j) p
        have hy2 := mod_pow_succ' y 4294967296 j
        rw [hy2]
        generalize y / 4294967296 ^ j % 4294967296 = yj at *
        generalize p / 4294967296 ^ (i + j) % 4294967296 = pj at *
        have hP : (4294967296 : Nat) ^ (i + (j + 1)) = 4294967296 * 4294967296 ^ (i + j) := by rw [← Nat.add_assoc, Nat.pow_succ, Nat.mul_comm]
        have hQ : xi * (y % 4294967296 ^ j + yj * 4294967296 ^ j) * 4294967296 ^ i = xi * (y % 4294967296 ^ j) * 4294967296 ^ i + xi * yj * 4294967296 ^ (i + j) := by
          rw [Nat.mul_add, Nat.add_mul, ← Nat.mul_assoc xi yj, Nat.mul_assoc (xi * yj), ← Nat.pow_add, Nat.add_comm j i]
        rw [hP, hQ, ← Nat.mul_assoc]
        generalize xi * yj = m at *
        generalize hl : (m + pj + c) % 4294967296 = l2
        generalize hcc : (m + pj + c) / 4294967296 = c2
        have key : l2 + c2 * 4294967296 = m + pj + c := by omega
        have k2 := congrArg (· * 4294967296 ^ (i + j)) key
        simp only [Nat.add_mul] at k2
        omega
      have hput := put32_lt (l := (xi * (y / 4294967296 ^ j % 4294967296) + p / 4294967296 ^ (i + j) % 4294967296 + c) % 4294967296) (by omega) hpl (Nat.mod_lt _ (by omega)) (show i + j < i + m by omega)
      have hset := dl_put (b := 4294967296) (n := n + m) (x := p) (i := i + j) (d := (xi * (y / 4294967296 ^ j % 4294967296) + p / 4294967296 ^ (i + j) % 4294967296 + c) % 4294967296) (by omega) (Nat.mod_lt _ (by omega))
      clear hp hpl hfin ho2 hy
      generalize p - p / 4294967296 ^ (i + j) % 4294967296 * 4294967296 ^ (i + j) + (xi * (y / 4294967296 ^ j % 4294967296) + p / 4294967296 ^ (i + j) % 4294967296 + c) % 4294967296 * 4294967296 ^ (i + j) = p2 at *
      refine T_seq ?_
      refine T_region ?_
      refine S_val rfl rfl (Y_lss_t rfl rfl (by omega)) ?_
      refine S_nil ?_
      refine X_seq ?_
      refine T_seq ?_
      refine T_cond_true rfl ?_
      refine T_skip ?_
      refine X_seq ?_
      refine T_seq ?_
      refine T_block ?_
      refine T_seq ?_
      refine T_region ?_
      refine S_val rfl rfl (Y_move rfl) ?_
      refine S_val rfl rfl (Y_ixV (und rfl) (siz rfl) rfl rfl (fun _ hs => Rd.st (by assumption) hs) (nat_cast _) (dl_lt (by assumption))) ?_
      refine S_val rfl rfl (Y_loadV (und rfl) rfl rfl (fun _ hs => Rd.st (by assumption) hs) (dl_get (by assumption))) ?_
      refine S_val rfl rfl (Y_assign rfl) ?_
      refine S_val rfl rfl (Y_assign rfl) ?_
      refine S_nil ?_
      refine X_seq ?_
      refine T_seq ?_
      refine T_region ?_
      refine S_val rfl rfl (Y_move rfl) ?_
      refine S_val rfl rfl (Y_conv (und rfl) (und rfl) rfl (wu64 (by omega) (by omega))) ?_
      refine S_val rfl rfl (Y_move rfl) ?_
      refine S_val rfl rfl (Y_conv (und rfl) (und rfl) rfl (wu64 (by omega) (by omega))) ?_
      refine S_val rfl rfl (Y_mulU rfl rfl (nat_cast _) (nat_cast _) rfl (by simp only [IntKind.bits]; omega)) ?_
      refine S_val rfl rfl (Y_move rfl) ?_
      refine S_val rfl rfl (Y_move rfl) ?_
      refine S_val rfl rfl (Y_move rfl) ?_
      refine S_val rfl rfl (Y_addN rfl rfl (nat_cast _) (nat_cast _) (by omega)) ?_
      refine S_val rfl rfl (Y_ixV (und rfl) (siz rfl) rfl rfl (fun _ hs => hs.rowRd 0 rfl) (nat_cast _) (dl_lt (by assumption))) ?_
      refine S_val rfl rfl (Y_loadV (und rfl) rfl rfl (fun _ hs => hs.rowRd 0 rfl) (dl_get (by assumption))) ?_
      refine S_val rfl rfl (Y_conv (und rfl) (und rfl) rfl (wu64 (by omega) (by omega))) ?_
      refine S_val rfl rfl (Y_addU rfl rfl (nat_cast _) (nat_cast _) rfl (by simp only [IntKind.bits]; omega)) ?_
      refine S_val rfl rfl (Y_move rfl) ?_
      refine S_val rfl rfl (Y_addU rfl rfl (nat_cast _) (nat_cast _) rfl (by simp only [IntKind.bits]; omega)) ?_
      refine S_val rfl rfl (Y_assign rfl) ?_
      refine S_nil ?_
      refine X_seq ?_
      refine T_seq ?_
      refine T_region ?_
      refine S_val rfl rfl (Y_move rfl) ?_
      refine S_val rfl rfl (Y_move rfl) ?_
      refine S_val rfl rfl (Y_move rfl) ?_
      refine S_val rfl rfl (Y_addN rfl rfl (nat_cast _) (nat_cast _) (by omega)) ?_
      refine S_val rfl rfl (Y_move rfl) ?_
      refine S_val rfl rfl (Y_conv (und rfl) (und rfl) rfl wu32n) ?_
      refine S_val rfl rfl (Y_ixV (und rfl) (siz rfl) rfl rfl (fun _ hs => hs.rowRd 0 rfl) (nat_cast _) (dl_lt (by assumption))) ?_
      refine S_storeR 0 (siz rfl) rfl rfl rfl (dl_lt (by assumption)) rfl ?_
      refine S_nil ?_
      refine X_seq ?_
      refine T_region ?_
      refine S_val rfl rfl (Y_move rfl) ?_
      refine S_val rfl rfl (Y_shrN rfl rfl (nat_cast _) (nat_lit' _) (by simp only [IntKind.bits]; omega)) ?_
      refine S_val rfl rfl (Y_assign rfl) ?_
      refine S_nil ?_
      refine X_blk ?_
      refine X_seq ?_
      refine T_region ?_
      refine S_val rfl rfl (Y_addN rfl rfl (nat_cast _) (nat_lit' _) (by omega)) ?_
      refine S_val rfl rfl (Y_move rfl) ?_
      refine S_nil ?_
      refine X_loop ?_
      exact ⟨(j + 1, _, p2), ⟨by dsimp only; omega, by dsimp only; omega, hput, hstep⟩, by dsimp only; omega, (by repeat (first | exact Env.sub_nil _ | (apply Env.sub_cons; rfl))), [], by dsimp only; rw [← hset]; rfl⟩
    · obtain rfl : j = m := by omega
      have hsum := hfin p c hp
      have hz : p / 4294967296 ^ (i + j) % 4294967296 = 0 := by rw [Nat.div_eq_of_lt hpl]
      have hset := dl_put (b := 4294967296) (n := n + j) (x := p) (i := i + j) (d := c) (by omega) hc
      rw [hz, Nat.zero_mul, Nat.sub_zero, hsum] at hset
      have hb : i + j < n + j := by omega
      clear hp hpl hfin ho2 hy hsum hz
      refine T_seq ?_
      refine T_region ?_
      refine S_val rfl rfl (Y_lss_f rfl rfl (by omega)) ?_
      refine S_nil ?_
      refine X_seq ?_
      refine T_seq ?_
      refine T_cond_false rfl ?_
      refine T_exit ?_
      refine X_seq_exit ?_
      refine X_loop_exit ?_
      refine X_blk_hit rfl ?_
      refine X_seq ?_
      refine T_region ?_
      refine S_val rfl rfl (Y_move rfl) ?_
      refine S_val rfl rfl (Y_move rfl) ?_
      refine S_val rfl rfl (Y_move rfl) ?_
      refine S_val rfl rfl (Y_lenV rfl (und rfl) rfl (fun _ hs => Rd.st (by assumption) hs) (dl_length _ _ _)) ?_
      refine S_val rfl rfl (Y_addN rfl rfl (nat_cast _) (nat_cast _) (by omega)) ?_
      refine S_val rfl rfl (Y_move rfl) ?_
      refine S_val rfl rfl (Y_conv (und rfl) (und rfl) rfl (wu32 (by omega) (by omega))) ?_
      refine S_val rfl rfl (Y_ixV (und rfl) (siz rfl) rfl rfl (fun _ hs => hs.rowRd 0 rfl) (nat_cast _) (dl_lt (by assumption))) ?_
      refine S_storeR 0 (siz rfl) rfl rfl rfl (dl_lt (by assumption)) rfl ?_
      refine S_nil ?_
      refine X_blk ?_
      refine X_seq ?_
      refine T_region ?_
      refine S_val rfl rfl (Y_addN rfl rfl (nat_cast _) (nat_lit' _) (by omega)) ?_
      refine S_val rfl rfl (Y_move rfl) ?_
      refine S_nil ?_
      refine X_loop ?_
      exact ⟨(i + 1, x % 4294967296 ^ (i + 1) * y), ⟨by dsimp only; omega, rfl⟩, by dsimp only; omega, (by repeat (first | exact Env.sub_nil _ | (apply Env.sub_cons; rfl))), [], by dsimp only; rw [← hset]; rfl⟩
  · obtain rfl : i = n := by omega
    have : o = x * y := by rw [ho, Nat.mod_eq_of_lt hx]
    subst this
    have hxy : x * y < 4294967296 ^ (i + m) := by rw [Nat.pow_add]; exact Nat.mul_lt_mul'' hx hy
    have htr := tr_le hxy
    refine T_seq ?_
    refine T_region ?_
    refine S_val rfl rfl (Y_lss_f rfl rfl (by omega)) ?_
    refine S_nil ?_
    refine X_seq ?_
    refine T_seq ?_
    refine T_cond_false rfl ?_
    refine T_exit ?_
    refine X_seq_exit ?_
    refine X_loop_exit ?_
    refine X_blk_hit rfl ?_
    refine X_seq ?_
    refine T_seq ?_
    refine T_region ?_
    refine S_val rfl rfl (Y_move rfl) ?_
    refine S_callV rfl rfl (bod rfl) (fun w hs => trim_any (x * y) _ hxy (by omega) vo _ (by first | exact hs.rowRd 0 rfl | exact hs.rowRd 1 rfl | exact hs.rowRd 2 rfl | exact hs.rowRd 3 rfl | exact hs.rowRd 4 rfl | exact hs.rowRd 5 rfl | exact hs.rowRd 6 rfl | exact hs.rowRd 7 rfl | exact hs.rowRd 8 rfl | exact hs.rowRd 9 rfl | exact hs.rowRd 10 rfl | exact hs.rowRd 11 rfl | exact hs.rowRd 12 rfl | exact hs.rowRd 13 rfl | exact Rd.st (by assumption) hs)) rfl rfl ?_
    refine S_conv 0 rfl (fun _ hr => hr.trim htr) ?_
    refine S_val rfl rfl (Y_assign rfl) ?_
    refine S_nil ?_
    refine X_seq ?_
    refine T_ret ?_
    ((first | refine X_fin_ret ?_ | refine X_fin ?_); exact ⟨[_], [_], .cons (.tmp rfl) .nil, Emb.one 0 rfl, rfl⟩)
theorem dbl_step (x b i c B : Nat) (hB : 0 < B) (hc : c = (2 * x + b) / B ^ i - 2 * (x / B ^ i)) (hle : 2 * (x / B ^ i) ≤ (2 * x + b) / B ^ i) :
    (2 * x + b) / B ^ i % B = (2 * (x / B ^ i % B) + c) % B ∧ (2 * (x / B ^ i % B) + c) / B = (2 * x + b) / B ^ (i + 1) - 2 * (x / B ^ (i + 1)) ∧ 2 * (x / B ^ (i + 1)) ≤ (2 * x + b) / B ^ (i + 1) := by
  have e : (2 * x + b) / B ^ i = 2 * (x / B ^ i) + c := by omega
  rw [Nat.pow_succ, ← Nat.div_div_eq_div_mul, ← Nat.div_div_eq_div_mul, e]
  generalize x / B ^ i = q
  have h := Nat.div_add_mod q B
  have e2 : 2 * q + c = (2 * (q % B) + c) + 2 * (q / B) * B := by
    have : 2 * (q / B) * B = 2 * (B * (q / B)) := by rw [Nat.mul_assoc, Nat.mul_comm B]
    omega
  refine ⟨by rw [e2, Nat.add_mul_mod_self_right], ?_, ?_⟩
  · rw [e2, Nat.add_mul_div_right _ _ hB]
    generalize (2 * (q % B) + c) / B = z
    generalize q / B = y
    omega
  · rw [e2, Nat.add_mul_div_right _ _ hB]
    generalize (2 * (q % B) + c) / B = z
    generalize q / B = y
    omega
theorem dbl_or {d c : Nat} (hd : d < 4294967296) (hc : c < 2) : (d * 2 ^ 1 % 4294967296 ||| c) = (2 * d + c) % 4294967296 := by
  have e : d * 2 ^ 1 % 4294967296 = 2 ^ 1 * (d % 2147483648) := by omega
  rw [e, ← Nat.two_pow_add_eq_or_of_lt (by simpa using hc)]
  omega
theorem double_any (x m b : Nat) (hx : x < 4294967296 ^ m) (hb : b < 2) (hm : m ≤ 900000) (v : Value) (w : World) (hr : Rd w v .u32 (dl 4294967296 m x)) :
    Fn Tryd.prog 75 #[v, .int .u32 b] w fun u N => N = [row .u32 (dl 4294967296 (tr (2 * x + b)) (2 * x + b)) u] := by
  have hz : 2 * x + b < 4294967296 ^ (m + 1) := by
    rw [Nat.pow_succ]
    omega
  have htr := tr_le hz
  refine Fn_of (args := [v, .int .u32 b]) Tryd.func75 rfl Tryd.ntmps75 Tryd.results75 (by simp) ?_
  refine T_seq ?_
  refine T_region ?_
  refine S_val rfl rfl (Y_assign rfl) ?_
  refine S_nil ?_
  refine X_seq ?_
  refine T_seq ?_
  refine T_region ?_
  refine S_val rfl rfl (Y_move rfl) ?_
  refine S_val rfl rfl (Y_lenV rfl (und rfl) rfl (fun _ hs => Rd.st (by assumption) hs) (dl_length _ _ _)) ?_
  refine S_val rfl rfl (Y_addN rfl rfl (nat_cast _) (nat_lit' _) (by omega)) ?_
  refine S_makeR (und rfl) (siz rfl) (byt rfl) (zer rfl) rfl rfl (nat_cast _) (by omega) rfl rfl rfl fun _ => ?_
  refine S_val rfl rfl (Y_assign rfl) ?_
  refine S_nil ?_
  refine X_seq ?_
  refine T_seq ?_
  refine T_seq ?_
  refine T_region ?_
  refine S_val rfl rfl (Y_move rfl) ?_
  refine S_val rfl rfl (Y_lenV rfl (und rfl) rfl (fun _ hs => Rd.st (by assumption) hs) (dl_length _ _ _)) ?_
  refine S_val rfl rfl (Y_move rfl) ?_
  refine S_nil ?_
  refine X_seq ?_
  refine T_block ?_
  rename_i vo
  refine T_loop (α := Nat × Nat) (fun a => a.1 ≤ m ∧ a.2 < 2 ∧ a.2 = (2 * x + b) / 4294967296 ^ a.1 - 2 * (x / 4294967296 ^ a.1) ∧ 2 * (x / 4294967296 ^ a.1) ≤ (2 * x + b) / 4294967296 ^ a.1)
    (fun a => [(0, v), (1, .int .u32 a.2), (5, vo), (12, v), (13, .int .i64 m), (14, .int .i64 a.1)])
    (fun a => [row .u32 (dl 4294967296 (m + 1) ((2 * x + b) % 4294967296 ^ a.1)) vo])
    (fun a => m - a.1) (0, b) (by simp; omega) (by repeat (first | exact Env.sub_nil _ | (apply Env.sub_cons; rfl))) [] (by rw [Nat.pow_zero, Nat.mod_one, dl_zero]; rfl) ?_
  rintro ⟨i, c⟩ ⟨hi, hc2, hc, hle⟩
  dsimp only at hi hc hc2 hle ⊢
  refine T_sh 0 rfl fun hsh => ?_
  rw [dl_length] at hsh
  by_cases h : i < m
  · obtain ⟨s1, s2, s3⟩ := dbl_step x b i c 4294967296 (by omega) hc hle
    have hd := dig32_lt x i
    have hor := dbl_or hd hc2
    rw [← s1] at hor
    have hset := dl_set (b := 4294967296) (n := m + 1) (x := (2 * x + b) % 4294967296 ^ i) (d := (2 * x + b) / 4294967296 ^ i % 4294967296) (by omega) (Nat.mod_lt _ (Nat.pow_pos (by omega))) (dig32_lt _ i)
    rw [← mod_pow_succ', ← hor] at hset
    have hc3 : x / 4294967296 ^ i % 4294967296 / 2 ^ 31 = (2 * x + b) / 4294967296 ^ (i + 1) - 2 * (x / 4294967296 ^ (i + 1)) := by omega
    have hc4 : x / 4294967296 ^ i % 4294967296 / 2 ^ 31 < 2 := by omega
    have hm2 : x / 4294967296 ^ i % 4294967296 * 2 ^ 1 % 4294967296 < 4294967296 := Nat.mod_lt _ (by omega)
    have hi2 : i < m + 1 := by omega
    clear hz hle s1 s2 hor hc hx
    refine T_seq ?_
    refine T_region ?_
    refine S_val rfl rfl (Y_lss_t rfl rfl (by omega)) ?_
    refine S_nil ?_
    refine X_seq ?_
    refine T_seq ?_
    refine T_cond_true rfl ?_
    refine T_skip ?_
    refine X_seq ?_
    refine T_seq ?_
    refine T_block ?_
    refine T_seq ?_
    refine T_region ?_
    refine S_val rfl rfl (Y_move rfl) ?_
    refine S_val rfl rfl (Y_ixV (und rfl) (siz rfl) rfl rfl (fun _ hs => Rd.st (by assumption) hs) (nat_cast _) (dl_lt (by assumption))) ?_
    refine S_val rfl rfl (Y_loadV (und rfl) rfl rfl (fun _ hs => Rd.st (by assumption) hs) (dl_get (by assumption))) ?_
    refine S_val rfl rfl (Y_assign rfl) ?_
    refine S_val rfl rfl (Y_assign rfl) ?_
    refine S_nil ?_
    refine X_seq ?_
    refine T_seq ?_
    refine T_region ?_
    refine S_val rfl rfl (Y_move rfl) ?_
    refine S_val rfl rfl (Y_move rfl) ?_
    refine S_val rfl rfl (Y_move rfl) ?_
    refine S_val rfl rfl (Y_shlN rfl rfl (nat_cast _) (nat_lit' _) rfl pw32) ?_
    refine S_val rfl rfl (Y_move rfl) ?_
    refine S_val rfl rfl (Y_or rfl rfl (nat_cast _) (nat_cast _) rfl (by simp only [IntKind.bits]; assumption) (by simp only [IntKind.bits]; omega)) ?_
    refine S_val rfl rfl (Y_ixV (und rfl) (siz rfl) rfl rfl (fun _ hs => hs.rowRd 0 rfl) (nat_cast _) (dl_lt (by assumption))) ?_
    refine S_storeR 0 (siz rfl) rfl rfl rfl (dl_lt (by assumption)) rfl ?_
    refine S_nil ?_
    refine X_seq ?_
    refine T_region ?_
    refine S_val rfl rfl (Y_move rfl) ?_
    refine S_val rfl rfl (Y_shrN rfl rfl (nat_cast _) (nat_lit' _) (by simp only [IntKind.bits]; assumption)) ?_
    refine S_val rfl rfl (Y_assign rfl) ?_
    refine S_nil ?_
    refine X_blk ?_
    refine X_seq ?_
    refine T_region ?_
    refine S_val rfl rfl (Y_addN rfl rfl (nat_cast _) (nat_lit' _) (by omega)) ?_
    refine S_val rfl rfl (Y_move rfl) ?_
    refine S_nil ?_
    refine X_loop ?_
    exact ⟨(i + 1, _), ⟨by dsimp only; omega, hc4, hc3, s3⟩, by dsimp only; omega, (by repeat (first | exact Env.sub_nil _ | (apply Env.sub_cons; rfl))), [], by dsimp only; rw [← hset]; rfl⟩
  · obtain rfl : i = m := by omega
    rw [Nat.div_eq_of_lt hx, Nat.mul_zero, Nat.sub_zero] at hc
    have hset := dl_set (b := 4294967296) (n := i + 1) (x := (2 * x + b) % 4294967296 ^ i) (d := (2 * x + b) / 4294967296 ^ i % 4294967296) (by omega) (Nat.mod_lt _ (Nat.pow_pos (by omega))) (dig32_lt _ i)
    rw [← mod_pow_succ', Nat.mod_eq_of_lt hz, ← hc, Nat.mod_eq_of_lt (show c < 4294967296 by omega)] at hset
    have hi2 : i < i + 1 := by omega
    generalize (2 * x + b) % 4294967296 ^ i = y at *
    clear hc hle hx
    refine T_seq ?_
    refine T_region ?_
    refine S_val rfl rfl (Y_lss_f rfl rfl (by omega)) ?_
    refine S_nil ?_
    refine X_seq ?_
    refine T_seq ?_
    refine T_cond_false rfl ?_
    refine T_exit ?_
    refine X_seq_exit ?_
    refine X_loop_exit ?_
    refine X_blk_hit rfl ?_
    refine X_seq ?_
    refine T_seq ?_
    refine T_region ?_
    refine S_val rfl rfl (Y_move rfl) ?_
    refine S_val rfl rfl (Y_move rfl) ?_
    refine S_val rfl rfl (Y_lenV rfl (und rfl) rfl (fun _ hs => Rd.st (by assumption) hs) (dl_length _ _ _)) ?_
    refine S_val rfl rfl (Y_move rfl) ?_
    refine S_val rfl rfl (Y_ixV (und rfl) (siz rfl) rfl rfl (fun _ hs => hs.rowRd 0 rfl) (nat_cast _) (dl_lt (by assumption))) ?_
    refine S_storeR 0 (siz rfl) rfl rfl rfl (dl_lt (by assumption)) rfl ?_
    refine S_nil ?_
    refine X_seq ?_
    refine T_seq ?_
    refine T_region ?_
    refine S_val rfl rfl (Y_move rfl) ?_
    rw [hset]
    refine S_callV rfl rfl (bod rfl) (fun w hs => trim_any (2 * x + b) _ hz (by omega) vo _ (by first | exact hs.rowRd 0 rfl | exact hs.rowRd 1 rfl | exact hs.rowRd 2 rfl | exact hs.rowRd 3 rfl | exact hs.rowRd 4 rfl | exact hs.rowRd 5 rfl | exact hs.rowRd 6 rfl | exact hs.rowRd 7 rfl | exact hs.rowRd 8 rfl | exact hs.rowRd 9 rfl | exact hs.rowRd 10 rfl | exact hs.rowRd 11 rfl | exact hs.rowRd 12 rfl | exact hs.rowRd 13 rfl | exact Rd.st (by assumption) hs)) rfl rfl ?_
    refine S_conv 0 rfl (fun _ hr => hr.trim htr) ?_
    refine S_val rfl rfl (Y_assign rfl) ?_
    refine S_nil ?_
    refine X_seq ?_
    refine T_ret ?_
    ((first | refine X_fin_ret ?_ | refine X_fin ?_); exact ⟨[_], [_], .cons (.tmp rfl) .nil, Emb.one 0 rfl, rfl⟩)
end Go.Proofs.YtchoncjikdfbgaaDoor
