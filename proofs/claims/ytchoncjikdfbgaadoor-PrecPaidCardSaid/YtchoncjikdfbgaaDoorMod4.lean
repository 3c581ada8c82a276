import Derived.Test.YtchoncjikdfbgaaDoorMod3
/- Package modexp: Pow. -/
namespace Go.Proofs.YtchoncjikdfbgaaDoor
open Go.RowKit
set_option maxRecDepth 20000
set_option maxHeartbeats 4000000

def powN (b e m : Nat) : Nat := if m = 0 then 0 else b ^ e % m
/-- What Pow hands back. -/
def PowR (k x : Nat) (r : Value) (N : Hp) : Prop := ∃ u, r = .tuple #[u, .int .i64 0] ∧ N = [row .u8 (bel k x) u]
theorem tr_bytes {k x : Nat} (hx : x < 256 ^ k) (hk : k ≤ 64) : tr x ≤ 16 := tr_le (by
  rw [show (4294967296 : Nat) ^ 16 = 256 ^ 64 by decide +kernel]
  exact Nat.lt_of_lt_of_le hx (Nat.pow_le_pow_right (by omega) hk))
theorem tr_mod {x m : Nat} (hm : m ≠ 0) : tr (x % m) ≤ tr m := tr_mono (Nat.le_of_lt (Nat.mod_lt _ (by omega)))
theorem pow_bit (b m P c t bit : Nat) (hbit : c / 2 ^ t % 2 = bit) :
    b ^ (P * 2 ^ (8 - t) + c / 2 ^ t) % m = if t + 1 ≤ 8 then (if bit = 1 then b ^ (P * 2 ^ (8 - (t + 1)) + c / 2 ^ (t + 1)) % m * (b ^ (P * 2 ^ (8 - (t + 1)) + c / 2 ^ (t + 1)) % m) % m * (b % m) % m else b ^ (P * 2 ^ (8 - (t + 1)) + c / 2 ^ (t + 1)) % m * (b ^ (P * 2 ^ (8 - (t + 1)) + c / 2 ^ (t + 1)) % m) % m) else b ^ (P * 2 ^ (8 - t) + c / 2 ^ t) % m := by
  split
  · rename_i ht
    have e : P * 2 ^ (8 - t) + c / 2 ^ t = (P * 2 ^ (8 - (t + 1)) + c / 2 ^ (t + 1)) + (P * 2 ^ (8 - (t + 1)) + c / 2 ^ (t + 1)) + bit := by
      rw [show 8 - t = (8 - (t + 1)) + 1 by omega, Nat.pow_succ, ← Nat.mul_assoc, Nat.pow_succ 2 t, ← Nat.div_div_eq_div_mul]
      generalize P * 2 ^ (8 - (t + 1)) = A
      generalize c / 2 ^ t = q at *
      omega
    have hb : bit = 0 ∨ bit = 1 := by omega
    rw [e, Nat.pow_add, Nat.pow_add]
    generalize b ^ (P * 2 ^ (8 - (t + 1)) + c / 2 ^ (t + 1)) = z
    rcases hb with rfl | rfl
    · rw [if_neg (by omega), Nat.pow_zero, Nat.mul_one, Nat.mul_mod]
    · rw [if_pos rfl, Nat.pow_one, Nat.mul_mod (z * z) b, Nat.mul_mod z z]
  · rfl
theorem mpow_any (i0 b n e k M : Nat) (hb : b < 256 ^ i0) (he : e < 256 ^ n) (hM : M < 256 ^ k) (hi : i0 ≤ 64) (hn : n ≤ 64) (hk : k ≤ 64) (v0 v1 v2 : Value) (w : World)
    (r0 : Rd w v0 .u8 (bel i0 b)) (r1 : Rd w v1 .u8 (bel n e)) (r2 : Rd w v2 .u8 (bel k M)) : Fn Tryd.prog 41 #[v0, v1, v2] w (PowR k (powN b e M)) := by
  have o2 := fun w h => mof_any k M hM (by omega) v2 w h
  have htm := tr_bytes hM hk
  by_cases h0 : M = 0
  · have hp : powN b e M = 0 := if_pos h0
    rw [hp]
    subst h0
    refine Fn_of (args := [v0, v1, v2]) Tryd.func41 rfl Tryd.ntmps41 Tryd.results41 (by simp) ?_
    refine T_seq ?_
    refine T_region ?_
    refine S_val rfl rfl (Y_assign rfl) ?_
    refine S_val rfl rfl (Y_assign rfl) ?_
    refine S_nil ?_
    refine X_seq ?_
    refine T_seq ?_
    refine T_seq ?_
    refine T_region ?_
    refine S_val rfl rfl (Y_move rfl) ?_
    refine S_val rfl rfl (Y_lenV rfl (und rfl) rfl (fun _ hs => Rd.st (by assumption) hs) (bel_length _ _)) ?_
    refine S_val rfl rfl (Y_gtr_f rfl rfl (by omega)) ?_
    refine S_val rfl rfl (Y_move rfl) ?_
    refine S_val rfl rfl (Y_move rfl) ?_
    refine S_val rfl rfl (Y_lenV rfl (und rfl) rfl (fun _ hs => Rd.st (by assumption) hs) (bel_length _ _)) ?_
    refine S_val rfl rfl (Y_gtr_f rfl rfl (by omega)) ?_
    refine S_val rfl rfl (Y_pick_f rfl rfl) ?_
    refine S_val rfl rfl (Y_move rfl) ?_
    refine S_val rfl rfl (Y_move rfl) ?_
    refine S_val rfl rfl (Y_lenV rfl (und rfl) rfl (fun _ hs => Rd.st (by assumption) hs) (bel_length _ _)) ?_
    refine S_val rfl rfl (Y_gtr_f rfl rfl (by omega)) ?_
    refine S_val rfl rfl (Y_pick_f rfl rfl) ?_
    refine S_nil ?_
    refine X_seq ?_
    refine T_cond_false rfl ?_
    refine T_skip ?_
    refine X_seq ?_
    refine T_seq ?_
    refine T_region ?_
    refine S_val rfl rfl (Y_move rfl) ?_
    refine S_callR _ rfl rfl (bod rfl) (fun w hs => o2 _ (by first | exact hs.rowRd 0 rfl | exact hs.rowRd 1 rfl | exact hs.rowRd 2 rfl | exact hs.rowRd 3 rfl | exact hs.rowRd 4 rfl | exact hs.rowRd 5 rfl | exact hs.rowRd 6 rfl | exact hs.rowRd 7 rfl | exact hs.rowRd 8 rfl | exact hs.rowRd 9 rfl | exact hs.rowRd 10 rfl | exact hs.rowRd 11 rfl | exact hs.rowRd 12 rfl | exact hs.rowRd 13 rfl | exact Rd.st (by assumption) hs)) rfl rfl fun _ => ?_
    refine S_val rfl rfl (Y_assign rfl) ?_
    refine S_nil ?_
    refine X_seq ?_
    refine T_seq ?_
    refine T_seq ?_
    refine T_region ?_
    refine S_val rfl rfl (Y_move rfl) ?_
    refine S_val rfl rfl (Y_lenV rfl (und rfl) rfl (fun _ hs => hs.rowRd 0 rfl) (dl_length _ _ _)) ?_
    refine S_val rfl rfl (Y_eql_t rfl rfl (by decide)) ?_
    refine S_nil ?_
    refine X_seq ?_
    refine T_cond_true rfl ?_
    refine T_seq ?_
    refine T_region ?_
    refine S_val rfl rfl (Y_move rfl) ?_
    refine S_val rfl rfl (Y_lenV rfl (und rfl) rfl (fun _ hs => Rd.st (by assumption) hs) (bel_length _ _)) ?_
    refine S_makeR (und rfl) (siz rfl) (byt rfl) (zer rfl) rfl rfl (nat_cast _) (by omega) rfl rfl rfl fun _ => ?_
    refine S_val rfl rfl (Y_assign rfl) ?_
    refine S_val rfl rfl (Y_assign rfl) ?_
    refine S_nil ?_
    refine X_seq ?_
    refine T_ret ?_
    refine X_seq_ret ?_
    ((first | refine X_fin_ret ?_ | refine X_fin ?_); exact ⟨[_, _], [_], .cons (.tmp rfl) (.cons (.tmp rfl) .nil), Emb.one 1 rfl, ⟨_, rfl, by rw [bel_zero]⟩⟩)
  · have hp : powN b e M = b ^ e % M := if_neg h0
    have htp := tr_pos h0
    have hte : ¬ ((tr M : Nat) : Int) = 0 := by omega
    have o0 := fun w h => mof_any i0 b hb (by omega) v0 w h
    have hb16 := tr_bytes hb hi
    have m0 := fun v u w h h' => mmod_any b M (tr b) (tr_lt _) h0 (by omega) (by omega) v u w h h'
    have m1 := fun v u w h h' => mmod_any 1 M 1 (by omega) h0 (by omega) (by omega) v u w h h'
    have he0 : e / 256 ^ (n - 0) = 0 := Nat.div_eq_of_lt he
    refine Fn_of (args := [v0, v1, v2]) Tryd.func41 rfl Tryd.ntmps41 Tryd.results41 (by simp) ?_
    refine T_seq ?_
    refine T_region ?_
    refine S_val rfl rfl (Y_assign rfl) ?_
    refine S_val rfl rfl (Y_assign rfl) ?_
    refine S_nil ?_
    refine X_seq ?_
    refine T_seq ?_
    refine T_seq ?_
    refine T_region ?_
    refine S_val rfl rfl (Y_move rfl) ?_
    refine S_val rfl rfl (Y_lenV rfl (und rfl) rfl (fun _ hs => Rd.st (by assumption) hs) (bel_length _ _)) ?_
    refine S_val rfl rfl (Y_gtr_f rfl rfl (by omega)) ?_
    refine S_val rfl rfl (Y_move rfl) ?_
    refine S_val rfl rfl (Y_move rfl) ?_
    refine S_val rfl rfl (Y_lenV rfl (und rfl) rfl (fun _ hs => Rd.st (by assumption) hs) (bel_length _ _)) ?_
    refine S_val rfl rfl (Y_gtr_f rfl rfl (by omega)) ?_
    refine S_val rfl rfl (Y_pick_f rfl rfl) ?_
    refine S_val rfl rfl (Y_move rfl) ?_
    refine S_val rfl rfl (Y_move rfl) ?_
    refine S_val rfl rfl (Y_lenV rfl (und rfl) rfl (fun _ hs => Rd.st (by assumption) hs) (bel_length _ _)) ?_
    refine S_val rfl rfl (Y_gtr_f rfl rfl (by omega)) ?_
    refine S_val rfl rfl (Y_pick_f rfl rfl) ?_
    refine S_nil ?_
    refine X_seq ?_
    refine T_cond_false rfl ?_
    refine T_skip ?_
    refine X_seq ?_
    refine T_seq ?_
    refine T_region ?_
    refine S_val rfl rfl (Y_move rfl) ?_
    refine S_callR _ rfl rfl (bod rfl) (fun w hs => o2 _ (by first | exact hs.rowRd 0 rfl | exact hs.rowRd 1 rfl | exact hs.rowRd 2 rfl | exact hs.rowRd 3 rfl | exact hs.rowRd 4 rfl | exact hs.rowRd 5 rfl | exact hs.rowRd 6 rfl | exact hs.rowRd 7 rfl | exact hs.rowRd 8 rfl | exact hs.rowRd 9 rfl | exact hs.rowRd 10 rfl | exact hs.rowRd 11 rfl | exact hs.rowRd 12 rfl | exact hs.rowRd 13 rfl | exact Rd.st (by assumption) hs)) rfl rfl fun _ => ?_
    refine S_val rfl rfl (Y_assign rfl) ?_
    refine S_nil ?_
    refine X_seq ?_
    refine T_seq ?_
    refine T_seq ?_
    refine T_region ?_
    refine S_val rfl rfl (Y_move rfl) ?_
    refine S_val rfl rfl (Y_lenV rfl (und rfl) rfl (fun _ hs => hs.rowRd 0 rfl) (dl_length _ _ _)) ?_
    refine S_val rfl rfl (Y_eql_f rfl rfl (by assumption)) ?_
    refine S_nil ?_
    refine X_seq ?_
    refine T_cond_false rfl ?_
    refine T_skip ?_
    refine X_seq ?_
    refine T_seq ?_
    refine T_region ?_
    refine S_val rfl rfl (Y_move rfl) ?_
    refine S_callR _ rfl rfl (bod rfl) (fun w hs => o0 _ (by first | exact hs.rowRd 0 rfl | exact hs.rowRd 1 rfl | exact hs.rowRd 2 rfl | exact hs.rowRd 3 rfl | exact hs.rowRd 4 rfl | exact hs.rowRd 5 rfl | exact hs.rowRd 6 rfl | exact hs.rowRd 7 rfl | exact hs.rowRd 8 rfl | exact hs.rowRd 9 rfl | exact hs.rowRd 10 rfl | exact hs.rowRd 11 rfl | exact hs.rowRd 12 rfl | exact hs.rowRd 13 rfl | exact Rd.st (by assumption) hs)) rfl rfl fun _ => ?_
    refine S_val rfl rfl (Y_move rfl) ?_
    refine S_callR _ rfl rfl (bod rfl) (fun w hs => m0 _ _ _ (by first | exact hs.rowRd 0 rfl | exact hs.rowRd 1 rfl | exact hs.rowRd 2 rfl | exact hs.rowRd 3 rfl | exact hs.rowRd 4 rfl | exact hs.rowRd 5 rfl | exact hs.rowRd 6 rfl | exact hs.rowRd 7 rfl | exact hs.rowRd 8 rfl | exact hs.rowRd 9 rfl | exact hs.rowRd 10 rfl | exact hs.rowRd 11 rfl | exact hs.rowRd 12 rfl | exact hs.rowRd 13 rfl | exact Rd.st (by assumption) hs) (by first | exact hs.rowRd 0 rfl | exact hs.rowRd 1 rfl | exact hs.rowRd 2 rfl | exact hs.rowRd 3 rfl | exact hs.rowRd 4 rfl | exact hs.rowRd 5 rfl | exact hs.rowRd 6 rfl | exact hs.rowRd 7 rfl | exact hs.rowRd 8 rfl | exact hs.rowRd 9 rfl | exact hs.rowRd 10 rfl | exact hs.rowRd 11 rfl | exact hs.rowRd 12 rfl | exact hs.rowRd 13 rfl | exact Rd.st (by assumption) hs)) rfl rfl fun _ => ?_
    refine S_sliceR (und rfl) (siz rfl) (zer rfl) rfl rfl rfl rfl fun _ => ?_
    refine S_val rfl rfl (Y_move rfl) ?_
    refine S_callR _ rfl rfl (bod rfl) (fun w hs => m1 _ _ _ (hs.rowRd 3 rfl) (by first | exact hs.rowRd 0 rfl | exact hs.rowRd 1 rfl | exact hs.rowRd 2 rfl | exact hs.rowRd 3 rfl | exact hs.rowRd 4 rfl | exact hs.rowRd 5 rfl | exact hs.rowRd 6 rfl | exact hs.rowRd 7 rfl | exact hs.rowRd 8 rfl | exact hs.rowRd 9 rfl | exact hs.rowRd 10 rfl | exact hs.rowRd 11 rfl | exact hs.rowRd 12 rfl | exact hs.rowRd 13 rfl | exact Rd.st (by assumption) hs)) rfl rfl fun _ => ?_
    refine S_val rfl rfl (Y_assign rfl) ?_
    refine S_val rfl rfl (Y_assign rfl) ?_
    refine S_nil ?_
    refine X_seq ?_
    refine T_seq ?_
    refine T_seq ?_
    refine T_region ?_
    refine S_val rfl rfl (Y_move rfl) ?_
    refine S_val rfl rfl (Y_lenV rfl (und rfl) rfl (fun _ hs => Rd.st (by assumption) hs) (bel_length _ _)) ?_
    refine S_val rfl rfl (Y_move rfl) ?_
    refine S_nil ?_
    refine X_seq ?_
    refine T_block ?_
    rename_i vm _ vb _ vo0
    refine T_loopE (α := Nat × Value) (fun a => a.1 ≤ n)
      (fun a => [(2, v2), (8, vm), (9, vb), (10, a.2), (42, v1), (43, .int .i64 n), (44, .int .i64 a.1)])
      (fun a => [row .u32 (dl 4294967296 (tr M) M) vm, row .u32 (dl 4294967296 (tr (b % M)) (b % M)) vb, row .u32 (dl 4294967296 (tr (b ^ (e / 256 ^ (n - a.1)) % M)) (b ^ (e / 256 ^ (n - a.1)) % M)) a.2])
      (fun a => n - a.1) (0, vo0) (by dsimp only; omega) (by repeat (first | exact Env.sub_nil _ | (apply Env.sub_cons; rfl))) (by dsimp only; rw [he0, Nat.pow_zero]; exact Emb.idx [0, 2, 4] rfl rfl) ?_
    rintro ⟨i, vo⟩ hi2
    dsimp only at hi2 ⊢
    by_cases h : i < n
    · obtain ⟨c, hcd⟩ : ∃ c, c = e / 256 ^ (n - 1 - i) % 256 := ⟨_, rfl⟩
      have hc : c < 256 := by rw [hcd]; exact Nat.mod_lt _ (by omega)
      have hnext : b ^ (e / 256 ^ (n - i) * 2 ^ (8 - 0) + c / 2 ^ 0) % M = b ^ (e / 256 ^ (n - (i + 1))) % M := by
        have h1 : e / 256 ^ (n - i) = e / 256 ^ (n - 1 - i) / 256 := by
          rw [show n - i = (n - 1 - i) + 1 by omega, Nat.pow_succ, Nat.div_div_eq_div_mul]
        rw [h1, hcd, show n - (i + 1) = n - 1 - i by omega]
        congr 2
        omega
      have hfirst : e / 256 ^ (n - i) * 2 ^ (8 - 8) + c / 2 ^ 8 = e / 256 ^ (n - i) := by
        rw [Nat.div_eq_of_lt (show c < 2 ^ 8 by omega)]
        simp
      clear he0 o0 o2 m0 m1 hte hp
      refine T_seq ?_
      refine T_region ?_
      refine S_val rfl rfl (Y_lss_t rfl rfl (by omega)) ?_
      refine S_nil ?_
      refine X_seq ?_
      refine T_seq ?_
      refine T_cond_true rfl ?_
      refine T_skip ?_
      refine X_seq ?_
      refine T_seq ?_
      refine T_block ?_
      refine T_seq ?_
      refine T_region ?_
      refine S_val rfl rfl (Y_ixV (und rfl) (siz rfl) rfl rfl (fun _ hs => Rd.st (by assumption) hs) (nat_cast _) (by simp; omega)) ?_
      refine S_val rfl rfl (Y_loadV (und rfl) rfl rfl (fun _ hs => Rd.st (by assumption) hs) (bel_get (by assumption))) ?_
      refine S_val rfl rfl (Y_assign rfl) ?_
      refine S_nil ?_
      refine X_seq ?_
      refine T_seq ?_
      refine T_region ?_
      refine S_val rfl rfl (Y_assign rfl) ?_
      refine S_nil ?_
      refine X_seq ?_
      refine T_block ?_
      rw [← hcd]
      clear hcd
      refine T_loopE (α := Nat × Value) (fun a => a.1 ≤ 8)
        (fun a => [(2, v2), (8, vm), (9, vb), (10, a.2), (12, .int .u8 c), (13, .int .i64 ((a.1 : Int) - 1)), (42, v1), (43, .int .i64 n), (44, .int .i64 i)])
        (fun a => [row .u32 (dl 4294967296 (tr M) M) vm, row .u32 (dl 4294967296 (tr (b % M)) (b % M)) vb, row .u32 (dl 4294967296 (tr (b ^ (e / 256 ^ (n - i) * 2 ^ (8 - a.1) + c / 2 ^ a.1) % M)) (b ^ (e / 256 ^ (n - i) * 2 ^ (8 - a.1) + c / 2 ^ a.1) % M)) a.2])
        (fun a => a.1) (8, vo) (Nat.le_refl _) (by repeat (first | exact Env.sub_nil _ | (apply Env.sub_cons; rfl))) (by dsimp only; rw [hfirst]; exact Emb.refl _) ?_
      clear hfirst
      rintro ⟨k, vo⟩ hk
      dsimp only at hk ⊢
      by_cases h2 : k = 0
      · subst h2
        refine T_seq ?_
        refine T_seq ?_
        refine T_region ?_
        refine S_val rfl rfl (Y_move rfl) ?_
        refine S_val rfl rfl (Y_geq_f rfl rfl (by decide)) ?_
        refine S_nil ?_
        refine X_seq ?_
        refine T_cond_false rfl ?_
        refine T_exit ?_
        refine X_seq_exit ?_
        refine X_loop_exit ?_
        refine X_blk_hit rfl ?_
        refine X_blk ?_
        refine X_seq ?_
        refine T_region ?_
        refine S_val rfl rfl (Y_addN rfl rfl (nat_cast _) (nat_lit' _) (by omega)) ?_
        refine S_val rfl rfl (Y_move rfl) ?_
        refine S_nil ?_
        refine X_loop ?_
        refine ⟨(i + 1, vo), by dsimp only; omega, by dsimp only; omega, (by repeat (first | exact Env.sub_nil _ | (apply Env.sub_cons; rfl))), ?_⟩
        dsimp only
        rw [← hnext]
        exact Emb.refl _
      · obtain ⟨t, rfl⟩ : ∃ t, k = t + 1 := ⟨k - 1, by omega⟩
        rw [show (((t + 1 : Nat) : Int) - 1) = (t : Int) by omega]
        have hb := pow_bit b M (e / 256 ^ (n - i)) c t _ rfl
        rw [if_pos (by omega)] at hb
        have hc2 : c / 2 ^ t < 256 := Nat.lt_of_le_of_lt (Nat.div_le_self _ _) hc
        have tz : tr (b ^ (e / 256 ^ (n - i) * 2 ^ (8 - (t + 1)) + c / 2 ^ (t + 1)) % M) ≤ 16 := Nat.le_trans (tr_mod h0) htm
        generalize b ^ (e / 256 ^ (n - i) * 2 ^ (8 - (t + 1)) + c / 2 ^ (t + 1)) % M = z at *
        have m1 := fun v w h => mtimes_any z z (tr z) (tr z) (tr_lt _) (tr_lt _) (by omega) (by omega) v v w h h
        have m2 := fun v u w h h' => mmod_any (z * z) M (tr (z * z)) (tr_lt _) h0 (by
          have : z * z < 4294967296 ^ (tr z + tr z) := by rw [Nat.pow_add]; exact Nat.mul_lt_mul'' (tr_lt _) (tr_lt _)
          have := tr_le this
          omega) (by omega) v u w h h'
        have tz2 : tr (z * z % M) ≤ 16 := Nat.le_trans (tr_mod h0) htm
        rcases Nat.mod_two_eq_zero_or_one (c / 2 ^ t) with hbit | hbit
        · rw [hbit, if_neg (by omega)] at hb
          have hbi : ¬ ((c / 2 ^ t &&& 1 : Nat) : Int) = 1 := by rw [Nat.and_one_is_mod, hbit]; omega
          clear hbit hnext
          generalize hyy : z * z % M = y at *
          generalize z * z = zz at *
          refine T_seq ?_
          refine T_seq ?_
          refine T_region ?_
          refine S_val rfl rfl (Y_move rfl) ?_
          refine S_val rfl rfl (Y_geq_t rfl rfl (by omega)) ?_
          refine S_nil ?_
          refine X_seq ?_
          refine T_cond_true rfl ?_
          refine T_skip ?_
          refine X_seq ?_
          refine T_seq ?_
          refine T_block ?_
          refine T_seq ?_
          refine T_region ?_
          refine S_val rfl rfl (Y_move rfl) ?_
          refine S_val rfl rfl (Y_move rfl) ?_
          refine S_callR _ rfl rfl (bod rfl) (fun w hs => m1 _ _ (by first | exact hs.rowRd 0 rfl | exact hs.rowRd 1 rfl | exact hs.rowRd 2 rfl | exact hs.rowRd 3 rfl | exact hs.rowRd 4 rfl | exact hs.rowRd 5 rfl | exact hs.rowRd 6 rfl | exact hs.rowRd 7 rfl | exact hs.rowRd 8 rfl | exact hs.rowRd 9 rfl | exact hs.rowRd 10 rfl | exact hs.rowRd 11 rfl | exact hs.rowRd 12 rfl | exact hs.rowRd 13 rfl | exact Rd.st (by assumption) hs)) rfl rfl fun _ => ?_
          refine S_val rfl rfl (Y_move rfl) ?_
          refine S_callR _ rfl rfl (bod rfl) (fun w hs => m2 _ _ _ (by first | exact hs.rowRd 0 rfl | exact hs.rowRd 1 rfl | exact hs.rowRd 2 rfl | exact hs.rowRd 3 rfl | exact hs.rowRd 4 rfl | exact hs.rowRd 5 rfl | exact hs.rowRd 6 rfl | exact hs.rowRd 7 rfl | exact hs.rowRd 8 rfl | exact hs.rowRd 9 rfl | exact hs.rowRd 10 rfl | exact hs.rowRd 11 rfl | exact hs.rowRd 12 rfl | exact hs.rowRd 13 rfl | exact Rd.st (by assumption) hs) (by first | exact hs.rowRd 0 rfl | exact hs.rowRd 1 rfl | exact hs.rowRd 2 rfl | exact hs.rowRd 3 rfl | exact hs.rowRd 4 rfl | exact hs.rowRd 5 rfl | exact hs.rowRd 6 rfl | exact hs.rowRd 7 rfl | exact hs.rowRd 8 rfl | exact hs.rowRd 9 rfl | exact hs.rowRd 10 rfl | exact hs.rowRd 11 rfl | exact hs.rowRd 12 rfl | exact hs.rowRd 13 rfl | exact Rd.st (by assumption) hs)) rfl rfl fun _ => ?_
          refine S_val rfl rfl (Y_assign rfl) ?_
          refine S_nil ?_
          refine X_seq ?_
          refine T_seq ?_
          refine T_region ?_
          refine S_val rfl rfl (Y_move rfl) ?_
          refine S_val rfl rfl (Y_move rfl) ?_
          refine S_val rfl rfl (Y_shrN rfl rfl (nat_cast _) (nat_cast _) (by simp only [IntKind.bits]; assumption)) ?_
          refine S_val rfl rfl (Y_and rfl rfl (nat_cast _) (nat_lit' _) rfl (by simp only [IntKind.bits]; assumption) (by simp only [IntKind.bits]; omega)) ?_
          refine S_val rfl rfl (Y_eql_f rfl rfl (by assumption)) ?_
          refine S_nil ?_
          refine X_seq ?_
          refine T_cond_false rfl ?_
          refine T_skip ?_
          refine X_blk ?_
          refine X_seq ?_
          refine T_region ?_
          refine S_val rfl rfl (Y_move rfl) ?_
          refine S_val rfl rfl (Y_sub rfl rfl (wi64 (by omega) (by omega))) ?_
          refine S_val rfl rfl (Y_assign rfl) ?_
          refine S_nil ?_
          refine X_loop ?_
          exact ⟨(t, _), by dsimp only; omega, by dsimp only; omega, (by repeat (first | exact Env.sub_nil _ | (apply Env.sub_cons; rfl))), by dsimp only; rw [hb]; exact Emb.idx [0, 1, 4] rfl rfl⟩
        · rw [hbit, if_pos rfl] at hb
          have hbi : ((c / 2 ^ t &&& 1 : Nat) : Int) = 1 := by rw [Nat.and_one_is_mod, hbit]; rfl
          clear hbit hnext
          generalize hyy : z * z % M = y at *
          generalize z * z = zz at *
          have tb : tr (b % M) ≤ 16 := Nat.le_trans (tr_mod h0) htm
          generalize b % M = br at *
          have m3 := fun v u w h h' => mtimes_any y br (tr y) (tr br) (tr_lt _) (tr_lt _) (by omega) (by omega) v u w h h'
          have m4 := fun v u w h h' => mmod_any (y * br) M (tr (y * br)) (tr_lt _) h0 (by
            have : y * br < 4294967296 ^ (tr y + tr br) := by rw [Nat.pow_add]; exact Nat.mul_lt_mul'' (tr_lt _) (tr_lt _)
            have := tr_le this
            omega) (by omega) v u w h h'
          generalize hyb : y * br % M = y2 at *
          generalize y * br = yb at *
          refine T_seq ?_
          refine T_seq ?_
          refine T_region ?_
          refine S_val rfl rfl (Y_move rfl) ?_
          refine S_val rfl rfl (Y_geq_t rfl rfl (by omega)) ?_
          refine S_nil ?_
          refine X_seq ?_
          refine T_cond_true rfl ?_
          refine T_skip ?_
          refine X_seq ?_
          refine T_seq ?_
          refine T_block ?_
          refine T_seq ?_
          refine T_region ?_
          refine S_val rfl rfl (Y_move rfl) ?_
          refine S_val rfl rfl (Y_move rfl) ?_
          refine S_callR _ rfl rfl (bod rfl) (fun w hs => m1 _ _ (by first | exact hs.rowRd 0 rfl | exact hs.rowRd 1 rfl | exact hs.rowRd 2 rfl | exact hs.rowRd 3 rfl | exact hs.rowRd 4 rfl | exact hs.rowRd 5 rfl | exact hs.rowRd 6 rfl | exact hs.rowRd 7 rfl | exact hs.rowRd 8 rfl | exact hs.rowRd 9 rfl | exact hs.rowRd 10 rfl | exact hs.rowRd 11 rfl | exact hs.rowRd 12 rfl | exact hs.rowRd 13 rfl | exact Rd.st (by assumption) hs)) rfl rfl fun _ => ?_
          refine S_val rfl rfl (Y_move rfl) ?_
          refine S_callR _ rfl rfl (bod rfl) (fun w hs => m2 _ _ _ (by first | exact hs.rowRd 0 rfl | exact hs.rowRd 1 rfl | exact hs.rowRd 2 rfl | exact hs.rowRd 3 rfl | exact hs.rowRd 4 rfl | exact hs.rowRd 5 rfl | exact hs.rowRd 6 rfl | exact hs.rowRd 7 rfl | exact hs.rowRd 8 rfl | exact hs.rowRd 9 rfl | exact hs.rowRd 10 rfl | exact hs.rowRd 11 rfl | exact hs.rowRd 12 rfl | exact hs.rowRd 13 rfl | exact Rd.st (by assumption) hs) (by first | exact hs.rowRd 0 rfl | exact hs.rowRd 1 rfl | exact hs.rowRd 2 rfl | exact hs.rowRd 3 rfl | exact hs.rowRd 4 rfl | exact hs.rowRd 5 rfl | exact hs.rowRd 6 rfl | exact hs.rowRd 7 rfl | exact hs.rowRd 8 rfl | exact hs.rowRd 9 rfl | exact hs.rowRd 10 rfl | exact hs.rowRd 11 rfl | exact hs.rowRd 12 rfl | exact hs.rowRd 13 rfl | exact Rd.st (by assumption) hs)) rfl rfl fun _ => ?_
          refine S_val rfl rfl (Y_assign rfl) ?_
          refine S_nil ?_
          refine X_seq ?_
          refine T_seq ?_
          refine T_region ?_
          refine S_val rfl rfl (Y_move rfl) ?_
          refine S_val rfl rfl (Y_move rfl) ?_
          refine S_val rfl rfl (Y_shrN rfl rfl (nat_cast _) (nat_cast _) (by simp only [IntKind.bits]; assumption)) ?_
          refine S_val rfl rfl (Y_and rfl rfl (nat_cast _) (nat_lit' _) rfl (by simp only [IntKind.bits]; assumption) (by simp only [IntKind.bits]; omega)) ?_
          refine S_val rfl rfl (Y_eql_t rfl rfl (by assumption)) ?_
          refine S_nil ?_
          refine X_seq ?_
          refine T_cond_true rfl ?_
          refine T_region ?_
          refine S_val rfl rfl (Y_move rfl) ?_
          refine S_val rfl rfl (Y_move rfl) ?_
          refine S_callR _ rfl rfl (bod rfl) (fun w hs => m3 _ _ _ (by first | exact hs.rowRd 0 rfl | exact hs.rowRd 1 rfl | exact hs.rowRd 2 rfl | exact hs.rowRd 3 rfl | exact hs.rowRd 4 rfl | exact hs.rowRd 5 rfl | exact hs.rowRd 6 rfl | exact hs.rowRd 7 rfl | exact hs.rowRd 8 rfl | exact hs.rowRd 9 rfl | exact hs.rowRd 10 rfl | exact hs.rowRd 11 rfl | exact hs.rowRd 12 rfl | exact hs.rowRd 13 rfl | exact Rd.st (by assumption) hs) (by first | exact hs.rowRd 0 rfl | exact hs.rowRd 1 rfl | exact hs.rowRd 2 rfl | exact hs.rowRd 3 rfl | exact hs.rowRd 4 rfl | exact hs.rowRd 5 rfl | exact hs.rowRd 6 rfl | exact hs.rowRd 7 rfl | exact hs.rowRd 8 rfl | exact hs.rowRd 9 rfl | exact hs.rowRd 10 rfl | exact hs.rowRd 11 rfl | exact hs.rowRd 12 rfl | exact hs.rowRd 13 rfl | exact Rd.st (by assumption) hs)) rfl rfl fun _ => ?_
          refine S_val rfl rfl (Y_move rfl) ?_
          refine S_callR _ rfl rfl (bod rfl) (fun w hs => m4 _ _ _ (by first | exact hs.rowRd 0 rfl | exact hs.rowRd 1 rfl | exact hs.rowRd 2 rfl | exact hs.rowRd 3 rfl | exact hs.rowRd 4 rfl | exact hs.rowRd 5 rfl | exact hs.rowRd 6 rfl | exact hs.rowRd 7 rfl | exact hs.rowRd 8 rfl | exact hs.rowRd 9 rfl | exact hs.rowRd 10 rfl | exact hs.rowRd 11 rfl | exact hs.rowRd 12 rfl | exact hs.rowRd 13 rfl | exact Rd.st (by assumption) hs) (by first | exact hs.rowRd 0 rfl | exact hs.rowRd 1 rfl | exact hs.rowRd 2 rfl | exact hs.rowRd 3 rfl | exact hs.rowRd 4 rfl | exact hs.rowRd 5 rfl | exact hs.rowRd 6 rfl | exact hs.rowRd 7 rfl | exact hs.rowRd 8 rfl | exact hs.rowRd 9 rfl | exact hs.rowRd 10 rfl | exact hs.rowRd 11 rfl | exact hs.rowRd 12 rfl | exact hs.rowRd 13 rfl | exact Rd.st (by assumption) hs)) rfl rfl fun _ => ?_
          refine S_val rfl rfl (Y_assign rfl) ?_
          refine S_nil ?_
          refine X_blk ?_
          refine X_seq ?_
          refine T_region ?_
          refine S_val rfl rfl (Y_move rfl) ?_
          refine S_val rfl rfl (Y_sub rfl rfl (wi64 (by omega) (by omega))) ?_
          refine S_val rfl rfl (Y_assign rfl) ?_
          refine S_nil ?_
          refine X_loop ?_
          exact ⟨(t, _), by dsimp only; omega, by dsimp only; omega, (by repeat (first | exact Env.sub_nil _ | (apply Env.sub_cons; rfl))), by dsimp only; rw [hb]; exact Emb.idx [0, 1, 6] rfl rfl⟩
    · obtain rfl : i = n := by omega
      rw [hp, Nat.sub_self, Nat.pow_zero, Nat.div_one]
      have bt := fun v w h => mbytes_any (b ^ e % M) (tr (b ^ e % M)) k (tr_lt _) (by have := tr_mod (x := b ^ e) h0; omega) (by omega) v w h
      generalize b ^ e % M = z at *
      clear he0 o0 o2 m0 m1 hte hp
      refine T_seq ?_
      refine T_region ?_
      refine S_val rfl rfl (Y_lss_f rfl rfl (by omega)) ?_
      refine S_nil ?_
      refine X_seq ?_
      refine T_seq ?_
      refine T_cond_false rfl ?_
      refine T_exit ?_
      refine X_seq_exit ?_
      refine X_loop_exit ?_
      refine X_blk_hit rfl ?_
      refine X_seq ?_
      refine T_seq ?_
      refine T_region ?_
      refine S_val rfl rfl (Y_move rfl) ?_
      refine S_val rfl rfl (Y_move rfl) ?_
      refine S_val rfl rfl (Y_lenV rfl (und rfl) rfl (fun _ hs => Rd.st (by assumption) hs) (bel_length _ _)) ?_
      refine S_callR _ rfl rfl (bod rfl) (fun w hs => bt _ _ (by first | exact hs.rowRd 0 rfl | exact hs.rowRd 1 rfl | exact hs.rowRd 2 rfl | exact hs.rowRd 3 rfl | exact hs.rowRd 4 rfl | exact hs.rowRd 5 rfl | exact hs.rowRd 6 rfl | exact hs.rowRd 7 rfl | exact hs.rowRd 8 rfl | exact hs.rowRd 9 rfl | exact hs.rowRd 10 rfl | exact hs.rowRd 11 rfl | exact hs.rowRd 12 rfl | exact hs.rowRd 13 rfl | exact Rd.st (by assumption) hs)) rfl rfl fun _ => ?_
      refine S_val rfl rfl (Y_assign rfl) ?_
      refine S_val rfl rfl (Y_assign rfl) ?_
      refine S_nil ?_
      refine X_seq ?_
      refine T_ret ?_
      ((first | refine X_fin_ret ?_ | refine X_fin ?_); exact ⟨[_, _], [_], .cons (.tmp rfl) (.cons (.tmp rfl) .nil), Emb.one 3 rfl, ⟨_, rfl, rfl⟩⟩)
theorem mpow_long (i0 b n e k M : Nat) (h : 64 < i0 ∨ 64 < n ∨ 64 < k) (v0 v1 v2 : Value) (w : World)
    (r0 : Rd w v0 .u8 (bel i0 b)) (r1 : Rd w v1 .u8 (bel n e)) (r2 : Rd w v2 .u8 (bel k M)) : Fn Tryd.prog 41 #[v0, v1, v2] w fun r N => r = .tuple #[.slice none 0 0, .int .i64 4] ∧ N = [] := by
  by_cases h1 : 64 < i0
  · refine Fn_of (args := [v0, v1, v2]) Tryd.func41 rfl Tryd.ntmps41 Tryd.results41 (by simp) ?_
    refine T_seq ?_
    refine T_region ?_
    refine S_val rfl rfl (Y_assign rfl) ?_
    refine S_val rfl rfl (Y_assign rfl) ?_
    refine S_nil ?_
    refine X_seq ?_
    refine T_seq ?_
    refine T_seq ?_
    refine T_region ?_
    refine S_val rfl rfl (Y_move rfl) ?_
    refine S_val rfl rfl (Y_lenV rfl (und rfl) rfl (fun _ hs => Rd.st (by assumption) hs) (bel_length _ _)) ?_
    refine S_val rfl rfl (Y_gtr_t rfl rfl (by omega)) ?_
    refine S_val rfl rfl (Y_move rfl) ?_
    refine S_skip rfl rfl ?_
    refine S_skip rfl rfl ?_
    refine S_skip rfl rfl ?_
    refine S_val rfl rfl (Y_pick_t rfl rfl) ?_
    refine S_val rfl rfl (Y_move rfl) ?_
    refine S_skip rfl rfl ?_
    refine S_skip rfl rfl ?_
    refine S_skip rfl rfl ?_
    refine S_val rfl rfl (Y_pick_t rfl rfl) ?_
    refine S_nil ?_
    refine X_seq ?_
    refine T_cond_true rfl ?_
    refine T_seq ?_
    refine T_region ?_
    refine S_val rfl rfl (Y_assign rfl) ?_
    refine S_val rfl rfl (Y_assign rfl) ?_
    refine S_nil ?_
    refine X_seq ?_
    refine T_ret ?_
    refine X_seq_ret ?_
    ((first | refine X_fin_ret ?_ | refine X_fin ?_); exact ⟨[_, _], [], .cons (.tmp rfl) (.cons (.tmp rfl) .nil), Emb.nil _, rfl, rfl⟩)
  · by_cases h2 : 64 < n
    · refine Fn_of (args := [v0, v1, v2]) Tryd.func41 rfl Tryd.ntmps41 Tryd.results41 (by simp) ?_
      refine T_seq ?_
      refine T_region ?_
      refine S_val rfl rfl (Y_assign rfl) ?_
      refine S_val rfl rfl (Y_assign rfl) ?_
      refine S_nil ?_
      refine X_seq ?_
      refine T_seq ?_
      refine T_seq ?_
      refine T_region ?_
      refine S_val rfl rfl (Y_move rfl) ?_
      refine S_val rfl rfl (Y_lenV rfl (und rfl) rfl (fun _ hs => Rd.st (by assumption) hs) (bel_length _ _)) ?_
      refine S_val rfl rfl (Y_gtr_f rfl rfl (by omega)) ?_
      refine S_val rfl rfl (Y_move rfl) ?_
      refine S_val rfl rfl (Y_move rfl) ?_
      refine S_val rfl rfl (Y_lenV rfl (und rfl) rfl (fun _ hs => Rd.st (by assumption) hs) (bel_length _ _)) ?_
      refine S_val rfl rfl (Y_gtr_t rfl rfl (by omega)) ?_
      refine S_val rfl rfl (Y_pick_f rfl rfl) ?_
      refine S_val rfl rfl (Y_move rfl) ?_
      refine S_skip rfl rfl ?_
      refine S_skip rfl rfl ?_
      refine S_skip rfl rfl ?_
      refine S_val rfl rfl (Y_pick_t rfl rfl) ?_
      refine S_nil ?_
      refine X_seq ?_
      refine T_cond_true rfl ?_
      refine T_seq ?_
      refine T_region ?_
      refine S_val rfl rfl (Y_assign rfl) ?_
      refine S_val rfl rfl (Y_assign rfl) ?_
      refine S_nil ?_
      refine X_seq ?_
      refine T_ret ?_
      refine X_seq_ret ?_
      ((first | refine X_fin_ret ?_ | refine X_fin ?_); exact ⟨[_, _], [], .cons (.tmp rfl) (.cons (.tmp rfl) .nil), Emb.nil _, rfl, rfl⟩)
    · have h3 : 64 < k := by omega
      refine Fn_of (args := [v0, v1, v2]) Tryd.func41 rfl Tryd.ntmps41 Tryd.results41 (by simp) ?_
      refine T_seq ?_
      refine T_region ?_
      refine S_val rfl rfl (Y_assign rfl) ?_
      refine S_val rfl rfl (Y_assign rfl) ?_
      refine S_nil ?_
      refine X_seq ?_
      refine T_seq ?_
      refine T_seq ?_
      refine T_region ?_
      refine S_val rfl rfl (Y_move rfl) ?_
      refine S_val rfl rfl (Y_lenV rfl (und rfl) rfl (fun _ hs => Rd.st (by assumption) hs) (bel_length _ _)) ?_
      refine S_val rfl rfl (Y_gtr_f rfl rfl (by omega)) ?_
      refine S_val rfl rfl (Y_move rfl) ?_
      refine S_val rfl rfl (Y_move rfl) ?_
      refine S_val rfl rfl (Y_lenV rfl (und rfl) rfl (fun _ hs => Rd.st (by assumption) hs) (bel_length _ _)) ?_
      refine S_val rfl rfl (Y_gtr_f rfl rfl (by omega)) ?_
      refine S_val rfl rfl (Y_pick_f rfl rfl) ?_
      refine S_val rfl rfl (Y_move rfl) ?_
      refine S_val rfl rfl (Y_move rfl) ?_
      refine S_val rfl rfl (Y_lenV rfl (und rfl) rfl (fun _ hs => Rd.st (by assumption) hs) (bel_length _ _)) ?_
      refine S_val rfl rfl (Y_gtr_t rfl rfl (by omega)) ?_
      refine S_val rfl rfl (Y_pick_f rfl rfl) ?_
      refine S_nil ?_
      refine X_seq ?_
      refine T_cond_true rfl ?_
      refine T_seq ?_
      refine T_region ?_
      refine S_val rfl rfl (Y_assign rfl) ?_
      refine S_val rfl rfl (Y_assign rfl) ?_
      refine S_nil ?_
      refine X_seq ?_
      refine T_ret ?_
      refine X_seq_ret ?_
      ((first | refine X_fin_ret ?_ | refine X_fin ?_); exact ⟨[_, _], [], .cons (.tmp rfl) (.cons (.tmp rfl) .nil), Emb.nil _, rfl, rfl⟩)
end Go.Proofs.YtchoncjikdfbgaaDoor
