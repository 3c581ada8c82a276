import Derived.Test.YtchoncjikdfbgaaDoorRN2
/- The reference's quotients. -/
namespace Go.Proofs.YtchoncjikdfbgaaDoor
open Go.RowKit
set_option maxRecDepth 10000
set_option maxHeartbeats 4000000

theorem Rd.high {w : World} {v : Value} {n x : Nat} (hr : Rd w v .i64 (dl 256 n x)) (hn : 32 ≤ n) : Rd w (vDrop 32 v) .i64 (dl 256 (n - 32) (x / 256 ^ 32)) := by
  have := hr.dropV (j := 32) (by rwa [dl_length])
  rwa [dl_drop] at this

theorem div_step {x y i r : Nat} (hy : 0 < y) (hr : r = x / 256 ^ (i + 1) % y) : x / 256 ^ i / y = x / 256 ^ (i + 1) / y * 256 + (x / 256 ^ i % 256 + 256 * r) / y ∧ x / 256 ^ i % y = (x / 256 ^ i % 256 + 256 * r) % y := by
  have e : x / 256 ^ i = (x / 256 ^ i % 256 + 256 * r) + (x / 256 ^ (i + 1) / y * 256) * y := by
    have h1 : x / 256 ^ (i + 1) = x / 256 ^ i / 256 := by rw [Nat.pow_succ, Nat.div_div_eq_div_mul]
    have h2 := Nat.div_add_mod (x / 256 ^ (i + 1)) y
    rw [← hr, h1] at h2
    rw [h1]
    have h3 : x / 256 ^ i / 256 / y * 256 * y = 256 * (y * (x / 256 ^ i / 256 / y)) := by rw [Nat.mul_right_comm, Nat.mul_comm (x / 256 ^ i / 256 / y) y, Nat.mul_comm 256]
    rw [h3]
    omega
  constructor
  · conv => lhs; rw [e]
    rw [Nat.add_mul_div_right _ _ hy, Nat.add_comm]
  · conv => lhs; rw [e]
    rw [Nat.add_mul_mod_self_right]
theorem ndiv_any (x y n m : Nat) (hx : x < 256 ^ n) (hy : y < 256 ^ m) (hn : n ≤ 1000000) (hm : m ≤ 100000) (v u : Value) (w : World) (hv : Rd w v .i64 (dl 256 n x)) (hu : Rd w u .i64 (dl 256 m y)) :
    Fn Tryd.prog 38 #[v, u] w fun z N => ∃ j r v1 v2, r = (if y = 0 then 0 else x % y) ∧ r < 256 ^ j ∧ j ≤ m ∧ z = .tuple #[v1, v2] ∧ N = [row .i64 (dl 256 n (x / y)) v1, row .i64 (dl 256 j r) v2] := by
  by_cases h0 : y = 0
  · subst h0
    refine Fn_of (args := [v, u]) Tryd.func38 rfl Tryd.ntmps38 Tryd.results38 (by simp) ?_
    refine T_seq ?_
    refine T_region ?_
    refine S_val rfl rfl (Y_assign rfl) ?_
    refine S_val rfl rfl (Y_assign rfl) ?_
    refine S_nil ?_
    refine X_seq ?_
    refine T_seq ?_
    refine T_region ?_
    refine S_val rfl rfl (Y_move rfl) ?_
    refine S_val rfl rfl (Y_lenV rfl (und rfl) rfl (fun _ hs => Rd.st (by assumption) hs) (dl_length _ _ _)) ?_
    refine S_makeR (und rfl) (siz rfl) (byt rfl) (zer rfl) rfl rfl (nat_cast _) (by omega) rfl rfl rfl fun _ => ?_
    refine S_val rfl rfl (Y_assign rfl) ?_
    refine S_nil ?_
    refine X_seq ?_
    refine T_seq ?_
    refine T_region ?_
    refine S_sliceR (und rfl) (siz rfl) (zer rfl) rfl rfl rfl rfl fun _ => ?_
    refine S_val rfl rfl (Y_assign rfl) ?_
    refine S_nil ?_
    refine X_seq ?_
    refine T_seq ?_
    refine T_seq ?_
    refine T_region ?_
    refine S_val rfl rfl (Y_move rfl) ?_
    refine S_callV rfl rfl (bod rfl) (fun w hs => nzero_any 0 m hy (by omega) u _ (by first | exact hs.rowRd 0 rfl | exact hs.rowRd 1 rfl | exact hs.rowRd 2 rfl | exact hs.rowRd 3 rfl | exact hs.rowRd 4 rfl | exact hs.rowRd 5 rfl | exact hs.rowRd 6 rfl | exact hs.rowRd 7 rfl | exact hs.rowRd 8 rfl | exact hs.rowRd 9 rfl | exact hs.rowRd 10 rfl | exact hs.rowRd 11 rfl | exact hs.rowRd 12 rfl | exact hs.rowRd 13 rfl | exact Rd.st (by assumption) hs)) rfl rfl ?_
    refine S_nil ?_
    refine X_seq ?_
    refine T_cond_true rfl ?_
    refine T_seq ?_
    refine T_region ?_
    refine S_val rfl rfl (Y_move rfl) ?_
    refine S_val rfl rfl (Y_move rfl) ?_
    refine S_val rfl rfl (Y_assign rfl) ?_
    refine S_val rfl rfl (Y_assign rfl) ?_
    refine S_nil ?_
    refine X_seq ?_
    refine T_ret ?_
    refine X_seq_ret ?_
    ((first | refine X_fin_ret ?_ | refine X_fin ?_); exact ⟨[_, _], [_, _], .cons (.tmp rfl) (.cons (.tmp rfl) .nil), Emb.two 0 1 rfl rfl rfl, ⟨0, 0, _, _, rfl, by omega, by omega, rfl, by rw [Nat.div_zero, dl_zero]; rfl⟩⟩)
  · have hy0 : 0 < y := by omega
    have hz : ∀ w, Rd w u .i64 (dl 256 m y) → Fn Tryd.prog 37 #[u] w fun r N => r = .bool false ∧ N = [] := fun w h => by
      have := nzero_any y m hy (by omega) u w h
      rwa [decide_eq_false h0] at this
    refine Fn_of (args := [v, u]) Tryd.func38 rfl Tryd.ntmps38 Tryd.results38 (by simp) ?_
    refine T_seq ?_
    refine T_region ?_
    refine S_val rfl rfl (Y_assign rfl) ?_
    refine S_val rfl rfl (Y_assign rfl) ?_
    refine S_nil ?_
    refine X_seq ?_
    refine T_seq ?_
    refine T_region ?_
    refine S_val rfl rfl (Y_move rfl) ?_
    refine S_val rfl rfl (Y_lenV rfl (und rfl) rfl (fun _ hs => Rd.st (by assumption) hs) (dl_length _ _ _)) ?_
    refine S_makeR (und rfl) (siz rfl) (byt rfl) (zer rfl) rfl rfl (nat_cast _) (by omega) rfl rfl rfl fun _ => ?_
    refine S_val rfl rfl (Y_assign rfl) ?_
    refine S_nil ?_
    refine X_seq ?_
    refine T_seq ?_
    refine T_region ?_
    refine S_sliceR (und rfl) (siz rfl) (zer rfl) rfl rfl rfl rfl fun _ => ?_
    refine S_val rfl rfl (Y_assign rfl) ?_
    refine S_nil ?_
    refine X_seq ?_
    refine T_seq ?_
    refine T_seq ?_
    refine T_region ?_
    refine S_val rfl rfl (Y_move rfl) ?_
    refine S_callV rfl rfl (bod rfl) (fun w hs => hz _ (by first | exact hs.rowRd 0 rfl | exact hs.rowRd 1 rfl | exact hs.rowRd 2 rfl | exact hs.rowRd 3 rfl | exact hs.rowRd 4 rfl | exact hs.rowRd 5 rfl | exact hs.rowRd 6 rfl | exact hs.rowRd 7 rfl | exact hs.rowRd 8 rfl | exact hs.rowRd 9 rfl | exact hs.rowRd 10 rfl | exact hs.rowRd 11 rfl | exact hs.rowRd 12 rfl | exact hs.rowRd 13 rfl | exact Rd.st (by assumption) hs)) rfl rfl ?_
    refine S_nil ?_
    refine X_seq ?_
    refine T_cond_false rfl ?_
    refine T_skip ?_
    refine X_seq ?_
    refine T_seq ?_
    refine T_seq ?_
    refine T_region ?_
    refine S_val rfl rfl (Y_move rfl) ?_
    refine S_val rfl rfl (Y_lenV rfl (und rfl) rfl (fun _ hs => Rd.st (by assumption) hs) (dl_length _ _ _)) ?_
    refine S_val rfl rfl (Y_sub rfl rfl (wi64 (by omega) (by omega))) ?_
    refine S_val rfl rfl (Y_assign rfl) ?_
    refine S_nil ?_
    refine X_seq ?_
    refine T_block ?_
    rename_i vq vl0
    refine T_loopE (α := Nat × Nat × Value) (fun a => a.1 ≤ n ∧ a.2.1 ≤ m ∧ x / 256 ^ a.1 % y < 256 ^ a.2.1)
      (fun a => [(0, v), (1, u), (6, vq), (7, a.2.2), (8, .int .i64 ((a.1 : Int) - 1))])
      (fun a => [row .i64 (dl 256 n (x / 256 ^ a.1 / y * 256 ^ a.1)) vq, row .i64 (dl 256 a.2.1 (x / 256 ^ a.1 % y)) a.2.2])
      (fun a => a.1) (n, 0, vl0) ⟨Nat.le_refl _, by dsimp only; omega, by dsimp only; rw [Nat.div_eq_of_lt hx, Nat.zero_mod]; omega⟩ (by repeat (first | exact Env.sub_nil _ | (apply Env.sub_cons; rfl)))
      (by dsimp only; rw [Nat.div_eq_of_lt hx, Nat.zero_div, Nat.zero_mul, dl_zero]; exact Emb.two 0 1 rfl rfl rfl) ?_
    rintro ⟨j, t, vl⟩ ⟨hj, ht, hr⟩
    dsimp only at hj ht hr ⊢
    by_cases h : j = 0
    · subst h
      refine T_seq ?_
      refine T_seq ?_
      refine T_region ?_
      refine S_val rfl rfl (Y_move rfl) ?_
      refine S_val rfl rfl (Y_geq_f rfl rfl (by decide)) ?_
      refine S_nil ?_
      refine X_seq ?_
      refine T_cond_false rfl ?_
      refine T_exit ?_
      refine X_seq_exit ?_
      refine X_loop_exit ?_
      refine X_blk_hit rfl ?_
      refine X_seq ?_
      refine T_seq ?_
      refine T_region ?_
      refine S_val rfl rfl (Y_move rfl) ?_
      refine S_val rfl rfl (Y_move rfl) ?_
      refine S_val rfl rfl (Y_assign rfl) ?_
      refine S_val rfl rfl (Y_assign rfl) ?_
      refine S_nil ?_
      refine X_seq ?_
      refine T_ret ?_
      ((first | refine X_fin_ret ?_ | refine X_fin ?_); exact ⟨[_, _], [_, _], .cons (.tmp rfl) (.cons (.tmp rfl) .nil), Emb.two 0 1 rfl rfl rfl, ⟨t, x / 256 ^ 0 % y, _, _, by rw [if_neg h0, Nat.pow_zero, Nat.div_one], hr, ht, rfl, by rw [Nat.pow_zero, Nat.div_one, Nat.mul_one]⟩⟩)
    · obtain ⟨i, rfl⟩ : ∃ i, j = i + 1 := ⟨j - 1, by omega⟩
      rw [show (((i + 1 : Nat) : Int) - 1) = (i : Int) by omega]
      obtain ⟨r, hr0⟩ : ∃ r, r = x / 256 ^ (i + 1) % y := ⟨_, rfl⟩
      obtain ⟨hq1, hq2⟩ := div_step hy0 hr0
      have hry : r < y := by rw [hr0]; exact Nat.mod_lt _ hy0
      rw [← hr0] at hr ⊢
      generalize hQ : x / 256 ^ (i + 1) / y = Q at *
      have hd := dig256_lt x i
      obtain ⟨R, hR⟩ : ∃ R, R = x / 256 ^ i % 256 + 256 * r := ⟨_, rfl⟩
      have hRt : R < 256 ^ (t + 1) := by rw [hR, Nat.pow_succ]; omega
      have hRl : dl 256 (t + 1) R = ((x / 256 ^ i % 256 : Nat) : Int) :: dl 256 t r := by rw [hR]; exact dl_cons hd
      have hRy : R < 256 * y := by rw [hR]; omega
      refine T_seq ?_
      refine T_seq ?_
      refine T_region ?_
      refine S_val rfl rfl (Y_move rfl) ?_
      refine S_val rfl rfl (Y_geq_t rfl rfl (by omega)) ?_
      refine S_nil ?_
      refine X_seq ?_
      refine T_cond_true rfl ?_
      refine T_skip ?_
      refine X_seq ?_
      refine T_seq ?_
      refine T_block ?_
      refine T_seq ?_
      refine T_region ?_
      refine S_val rfl rfl (Y_move rfl) ?_
      refine S_val rfl rfl (Y_move rfl) ?_
      refine S_val rfl rfl (Y_ixV (und rfl) (siz rfl) rfl rfl (fun _ hs => Rd.st (by assumption) hs) (nat_cast _) (dl_lt (by assumption))) ?_
      refine S_val rfl rfl (Y_loadV (und rfl) rfl rfl (fun _ hs => Rd.st (by assumption) hs) (dl_get (by assumption))) ?_
      refine S_sliceR (und rfl) (siz rfl) (zer rfl) rfl rfl rfl rfl fun _ => ?_
      refine S_val rfl rfl (Y_assign rfl) ?_
      refine S_nil ?_
      refine X_seq ?_
      refine T_seq ?_
      refine T_region ?_
      refine S_val rfl rfl (Y_move rfl) ?_
      refine S_val rfl rfl (Y_move rfl) ?_
      refine S_append 2 rfl (und rfl) (und rfl) (siz rfl) (byt rfl) (zer rfl) rfl rfl rfl (fun _ hs => hs.rowRd 1 rfl) (by simp; omega) rfl rfl rfl fun _ => ?_
      refine S_val rfl rfl (Y_assign rfl) ?_
      refine S_nil ?_
      refine X_seq ?_
      refine T_seq ?_
      refine T_region ?_
      refine S_val rfl rfl (Y_move rfl) ?_
      refine S_val rfl rfl (Y_assign rfl) ?_
      refine S_nil ?_
      refine X_seq ?_
      refine T_seq ?_
      refine T_block ?_
      refine T_loopE (α := Nat × Nat × Value) (fun a => a.2.1 + a.1 * y = R)
        (fun a => [(0, v), (1, u), (6, vq), (7, a.2.2), (8, .int .i64 i)])
        (fun a => [row .i64 (dl 256 n (Q * 256 ^ (i + 1) + a.1 * 256 ^ i)) vq, row .i64 (dl 256 (t + 1) a.2.1) a.2.2])
        (fun a => a.2.1) (0, R, _) (by simp) (by repeat (first | exact Env.sub_nil _ | (apply Env.sub_cons; rfl))) (by dsimp only; rw [Nat.zero_mul, Nat.add_zero, hRl]; exact Emb.two 0 2 rfl rfl rfl) ?_
      rintro ⟨c, s, v2⟩ hs
      dsimp only at hs ⊢
      have hc : c < 256 := by
        rcases Nat.lt_or_ge c 256 with h | h
        · exact h
        · have : 256 * y ≤ c * y := Nat.mul_le_mul_right _ h
          omega
      have hP : 0 < 256 ^ i := Nat.pow_pos (by omega)
      have hst : s < 256 ^ (t + 1) := by omega
      have hdig : (Q * 256 ^ (i + 1) + c * 256 ^ i) / 256 ^ i % 256 = c := by
        have := digit_rep (b := 256) (r := 0) (d := c) (h := Q) (i := i) (j := i) (by omega) hP hc
        rw [if_neg (by omega), if_pos rfl] at this
        rwa [Nat.zero_add, Nat.add_comm] at this
      by_cases hlt : s < y
      · have hl : ∀ w, Rd w v2 .i64 (dl 256 (t + 1) s) → Rd w u .i64 (dl 256 m y) → Fn Tryd.prog 39 #[v2, u] w fun r N => r = .bool true ∧ N = [] := fun w h h' => by
          have := nless_any s y (t + 1) m hst hy (by omega) (by omega) v2 u w h h'
          rwa [decide_eq_true hlt] at this
        have hcq : R / y = c ∧ R % y = s := by
          rw [← hs, Nat.add_mul_div_right _ _ hy0, Nat.add_mul_mod_self_right, Nat.div_eq_of_lt hlt, Nat.mod_eq_of_lt hlt]
          omega
        rw [← hR] at hq1 hq2
        rw [hcq.1] at hq1
        rw [hcq.2] at hq2
        refine T_seq ?_
        refine T_seq ?_
        refine T_region ?_
        refine S_val rfl rfl (Y_move rfl) ?_
        refine S_val rfl rfl (Y_move rfl) ?_
        refine S_callV rfl rfl (bod rfl) (fun w hs => hl _ (by first | exact hs.rowRd 0 rfl | exact hs.rowRd 1 rfl | exact hs.rowRd 2 rfl | exact hs.rowRd 3 rfl | exact hs.rowRd 4 rfl | exact hs.rowRd 5 rfl | exact hs.rowRd 6 rfl | exact hs.rowRd 7 rfl | exact hs.rowRd 8 rfl | exact hs.rowRd 9 rfl | exact hs.rowRd 10 rfl | exact hs.rowRd 11 rfl | exact hs.rowRd 12 rfl | exact hs.rowRd 13 rfl | exact Rd.st (by assumption) hs) (by first | exact hs.rowRd 0 rfl | exact hs.rowRd 1 rfl | exact hs.rowRd 2 rfl | exact hs.rowRd 3 rfl | exact hs.rowRd 4 rfl | exact hs.rowRd 5 rfl | exact hs.rowRd 6 rfl | exact hs.rowRd 7 rfl | exact hs.rowRd 8 rfl | exact hs.rowRd 9 rfl | exact hs.rowRd 10 rfl | exact hs.rowRd 11 rfl | exact hs.rowRd 12 rfl | exact hs.rowRd 13 rfl | exact Rd.st (by assumption) hs)) rfl rfl ?_
        refine S_val rfl rfl (Y_not rfl rfl) ?_
        refine S_nil ?_
        refine X_seq ?_
        refine T_cond_false rfl ?_
        refine T_exit ?_
        refine X_seq_exit ?_
        refine X_loop_exit ?_
        refine X_blk_hit rfl ?_
        refine X_seq ?_
        refine T_block ?_
        refine T_loopE (α := Nat × Value) (fun a => a.1 ≤ t + 1 ∧ s < 256 ^ a.1)
          (fun a => [(0, v), (1, u), (6, vq), (7, a.2), (8, .int .i64 i)])
          (fun a => [row .i64 (dl 256 n (Q * 256 ^ (i + 1) + c * 256 ^ i)) vq, row .i64 (dl 256 a.1 s) a.2])
          (fun a => a.1) (t + 1, v2) ⟨Nat.le_refl _, hst⟩ (by repeat (first | exact Env.sub_nil _ | (apply Env.sub_cons; rfl))) (Emb.refl _) ?_
        rintro ⟨e, v3⟩ ⟨he, hse⟩
        dsimp only at he hse ⊢
        have hfin : x / 256 ^ i / y * 256 ^ i = Q * 256 ^ (i + 1) + c * 256 ^ i := by
          rw [hq1, Nat.add_mul, Nat.pow_succ, Nat.mul_assoc Q, Nat.mul_comm 256]
        by_cases h1 : e = 0
        · subst h1
          refine T_seq ?_
          refine T_seq ?_
          refine T_region ?_
          refine S_val rfl rfl (Y_move rfl) ?_
          refine S_val rfl rfl (Y_lenV rfl (und rfl) rfl (fun _ hs => hs.rowRd 1 rfl) (dl_length _ _ _)) ?_
          refine S_val rfl rfl (Y_gtr_f rfl rfl (by decide)) ?_
          refine S_val rfl rfl (Y_move rfl) ?_
          refine S_skip rfl rfl ?_
          refine S_skip rfl rfl ?_
          refine S_skip rfl rfl ?_
          refine S_skip rfl rfl ?_
          refine S_skip rfl rfl ?_
          refine S_skip rfl rfl ?_
          refine S_skip rfl rfl ?_
          refine S_val rfl rfl (Y_pick_f rfl rfl) ?_
          refine S_nil ?_
          refine X_seq ?_
          refine T_cond_false rfl ?_
          refine T_exit ?_
          refine X_seq_exit ?_
          refine X_loop_exit ?_
          refine X_blk_hit rfl ?_
          refine X_blk ?_
          refine X_seq ?_
          refine T_region ?_
          refine S_val rfl rfl (Y_move rfl) ?_
          refine S_val rfl rfl (Y_sub rfl rfl (wi64 (by omega) (by omega))) ?_
          refine S_val rfl rfl (Y_assign rfl) ?_
          refine S_nil ?_
          refine X_loop ?_
          refine ⟨(i, 0, _), ⟨by dsimp only; omega, by dsimp only; omega, by dsimp only; omega⟩, by dsimp only; omega, (by repeat (first | exact Env.sub_nil _ | (apply Env.sub_cons; rfl))), ?_⟩
          dsimp only
          rw [hfin, hq2]
          exact Emb.refl _
        · obtain ⟨f, rfl⟩ : ∃ f, e = f + 1 := ⟨e - 1, by omega⟩
          by_cases h2 : s / 256 ^ f % 256 = 0
          · have h2' : ((s / 256 ^ (f + 1 - 1) % 256 : Nat) : Int) = 0 := by rw [Nat.add_sub_cancel, h2]; rfl
            refine T_seq ?_
            refine T_seq ?_
            refine T_region ?_
            refine S_val rfl rfl (Y_move rfl) ?_
            refine S_val rfl rfl (Y_lenV rfl (und rfl) rfl (fun _ hs => hs.rowRd 1 rfl) (dl_length _ _ _)) ?_
            refine S_val rfl rfl (Y_gtr_t rfl rfl (by omega)) ?_
            refine S_val rfl rfl (Y_move rfl) ?_
            refine S_val rfl rfl (Y_move rfl) ?_
            refine S_val rfl rfl (Y_move rfl) ?_
            refine S_val rfl rfl (Y_lenV rfl (und rfl) rfl (fun _ hs => hs.rowRd 1 rfl) (dl_length _ _ _)) ?_
            refine S_val rfl rfl (Y_subN rfl rfl (nat_cast _) (nat_lit' _) (Nat.le_of_ble_eq_true rfl) (by omega)) ?_
            refine S_val rfl rfl (Y_ixV (und rfl) (siz rfl) rfl rfl (fun _ hs => hs.rowRd 1 rfl) (nat_cast _) (dl_lt (by omega))) ?_
            refine S_val rfl rfl (Y_loadV (und rfl) rfl rfl (fun _ hs => hs.rowRd 1 rfl) (dl_get (by omega))) ?_
            refine S_val rfl rfl (Y_eql_t rfl rfl (by assumption)) ?_
            refine S_val rfl rfl (Y_pick_t rfl rfl) ?_
            refine S_nil ?_
            refine X_seq ?_
            refine T_cond_true rfl ?_
            refine T_skip ?_
            refine X_seq ?_
            refine T_block ?_
            refine T_region ?_
            refine S_val rfl rfl (Y_move rfl) ?_
            refine S_val rfl rfl (Y_move rfl) ?_
            refine S_val rfl rfl (Y_lenV rfl (und rfl) rfl (fun _ hs => hs.rowRd 1 rfl) (dl_length _ _ _)) ?_
            refine S_val rfl rfl (Y_subN rfl rfl (nat_cast _) (nat_lit' _) (Nat.le_of_ble_eq_true rfl) (by omega)) ?_
            refine S_cutR 1 (und rfl) (siz rfl) rfl rfl rfl (nat_cast _) (dl_le (by omega)) rfl rfl ?_
            refine S_val rfl rfl (Y_assign rfl) ?_
            refine S_nil ?_
            refine X_blk ?_
            refine X_loop ?_
            refine ⟨(f, _), ⟨by dsimp only; omega, ?_⟩, by dsimp only; omega, (by repeat (first | exact Env.sub_nil _ | (apply Env.sub_cons; rfl))), ?_⟩
            · dsimp only
              have e1 : s / 256 ^ f = 0 := by
                have h3 : s / 256 ^ f < 256 := Nat.div_lt_of_lt_mul (by rw [Nat.pow_succ] at hse; exact hse)
                rwa [Nat.mod_eq_of_lt h3] at h2
              rcases Nat.lt_or_ge s (256 ^ f) with h | h
              · exact h
              · have := Nat.div_pos h (Nat.pow_pos (by omega)); omega
            · dsimp only
              rw [← dl_take 256 (f + 1) s f (by omega)]
              exact Emb.refl _
          · have h2' : ¬ ((s / 256 ^ (f + 1 - 1) % 256 : Nat) : Int) = 0 := by rw [Nat.add_sub_cancel]; omega
            refine T_seq ?_
            refine T_seq ?_
            refine T_region ?_
            refine S_val rfl rfl (Y_move rfl) ?_
            refine S_val rfl rfl (Y_lenV rfl (und rfl) rfl (fun _ hs => hs.rowRd 1 rfl) (dl_length _ _ _)) ?_
            refine S_val rfl rfl (Y_gtr_t rfl rfl (by omega)) ?_
            refine S_val rfl rfl (Y_move rfl) ?_
            refine S_val rfl rfl (Y_move rfl) ?_
            refine S_val rfl rfl (Y_move rfl) ?_
            refine S_val rfl rfl (Y_lenV rfl (und rfl) rfl (fun _ hs => hs.rowRd 1 rfl) (dl_length _ _ _)) ?_
            refine S_val rfl rfl (Y_subN rfl rfl (nat_cast _) (nat_lit' _) (Nat.le_of_ble_eq_true rfl) (by omega)) ?_
            refine S_val rfl rfl (Y_ixV (und rfl) (siz rfl) rfl rfl (fun _ hs => hs.rowRd 1 rfl) (nat_cast _) (dl_lt (by omega))) ?_
            refine S_val rfl rfl (Y_loadV (und rfl) rfl rfl (fun _ hs => hs.rowRd 1 rfl) (dl_get (by omega))) ?_
            refine S_val rfl rfl (Y_eql_f rfl rfl (by assumption)) ?_
            refine S_val rfl rfl (Y_pick_t rfl rfl) ?_
            refine S_nil ?_
            refine X_seq ?_
            refine T_cond_false rfl ?_
            refine T_exit ?_
            refine X_seq_exit ?_
            refine X_loop_exit ?_
            refine X_blk_hit rfl ?_
            refine X_blk ?_
            refine X_seq ?_
            refine T_region ?_
            refine S_val rfl rfl (Y_move rfl) ?_
            refine S_val rfl rfl (Y_sub rfl rfl (wi64 (by omega) (by omega))) ?_
            refine S_val rfl rfl (Y_assign rfl) ?_
            refine S_nil ?_
            refine X_loop ?_
            refine ⟨(i, f + 1, _), ⟨by dsimp only; omega, ?_, by dsimp only; omega⟩, by dsimp only; omega, (by repeat (first | exact Env.sub_nil _ | (apply Env.sub_cons; rfl))), ?_⟩
            · dsimp only
              have e1 : 256 ^ f ≤ s := by
                rcases Nat.lt_or_ge s (256 ^ f) with h | h
                · rw [Nat.div_eq_of_lt h] at h2; simp at h2
                · exact h
              have := (Nat.pow_lt_pow_iff_right (by omega : 1 < 256)).1 (Nat.lt_of_le_of_lt e1 (Nat.lt_trans hlt hy))
              omega
            · dsimp only
              rw [hfin, hq2]
              exact Emb.refl _
      · obtain ⟨z, rfl⟩ : ∃ z, s = z + y := ⟨s - y, by omega⟩
        have hl : ∀ w, Rd w v2 .i64 (dl 256 (t + 1) (z + y)) → Rd w u .i64 (dl 256 m y) → Fn Tryd.prog 39 #[v2, u] w fun r N => r = .bool false ∧ N = [] := fun w h h' => by
          have := nless_any (z + y) y (t + 1) m hst hy (by omega) (by omega) v2 u w h h'
          rwa [decide_eq_false hlt] at this
        have hs' : z + (c + 1) * y = R := by rw [← hs, Nat.add_mul, Nat.one_mul]; omega
        have hc' : c + 1 < 256 := by
          rcases Nat.lt_or_ge (c + 1) 256 with h | h
          · exact h
          · have : 256 * y ≤ (c + 1) * y := Nat.mul_le_mul_right _ h
            omega
        refine T_seq ?_
        refine T_seq ?_
        refine T_region ?_
        refine S_val rfl rfl (Y_move rfl) ?_
        refine S_val rfl rfl (Y_move rfl) ?_
        refine S_callV rfl rfl (bod rfl) (fun w hs => hl _ (by first | exact hs.rowRd 0 rfl | exact hs.rowRd 1 rfl | exact hs.rowRd 2 rfl | exact hs.rowRd 3 rfl | exact hs.rowRd 4 rfl | exact hs.rowRd 5 rfl | exact hs.rowRd 6 rfl | exact hs.rowRd 7 rfl | exact hs.rowRd 8 rfl | exact hs.rowRd 9 rfl | exact hs.rowRd 10 rfl | exact hs.rowRd 11 rfl | exact hs.rowRd 12 rfl | exact hs.rowRd 13 rfl | exact Rd.st (by assumption) hs) (by first | exact hs.rowRd 0 rfl | exact hs.rowRd 1 rfl | exact hs.rowRd 2 rfl | exact hs.rowRd 3 rfl | exact hs.rowRd 4 rfl | exact hs.rowRd 5 rfl | exact hs.rowRd 6 rfl | exact hs.rowRd 7 rfl | exact hs.rowRd 8 rfl | exact hs.rowRd 9 rfl | exact hs.rowRd 10 rfl | exact hs.rowRd 11 rfl | exact hs.rowRd 12 rfl | exact hs.rowRd 13 rfl | exact Rd.st (by assumption) hs)) rfl rfl ?_
        refine S_val rfl rfl (Y_not rfl rfl) ?_
        refine S_nil ?_
        refine X_seq ?_
        refine T_cond_true rfl ?_
        refine T_skip ?_
        refine X_seq ?_
        refine T_block ?_
        refine T_seq ?_
        refine T_region ?_
        refine S_val rfl rfl (Y_move rfl) ?_
        refine S_val rfl rfl (Y_move rfl) ?_
        refine S_callR _ rfl rfl (bod rfl) (fun w hs => nminus_any z y (t + 1) m hst hy (by omega) (by omega) v2 u _ (by first | exact hs.rowRd 0 rfl | exact hs.rowRd 1 rfl | exact hs.rowRd 2 rfl | exact hs.rowRd 3 rfl | exact hs.rowRd 4 rfl | exact hs.rowRd 5 rfl | exact hs.rowRd 6 rfl | exact hs.rowRd 7 rfl | exact hs.rowRd 8 rfl | exact hs.rowRd 9 rfl | exact hs.rowRd 10 rfl | exact hs.rowRd 11 rfl | exact hs.rowRd 12 rfl | exact hs.rowRd 13 rfl | exact Rd.st (by assumption) hs) (by first | exact hs.rowRd 0 rfl | exact hs.rowRd 1 rfl | exact hs.rowRd 2 rfl | exact hs.rowRd 3 rfl | exact hs.rowRd 4 rfl | exact hs.rowRd 5 rfl | exact hs.rowRd 6 rfl | exact hs.rowRd 7 rfl | exact hs.rowRd 8 rfl | exact hs.rowRd 9 rfl | exact hs.rowRd 10 rfl | exact hs.rowRd 11 rfl | exact hs.rowRd 12 rfl | exact hs.rowRd 13 rfl | exact Rd.st (by assumption) hs)) rfl rfl fun _ => ?_
        refine S_val rfl rfl (Y_assign rfl) ?_
        refine S_nil ?_
        refine X_seq ?_
        refine T_region ?_
        refine S_val rfl rfl (Y_move rfl) ?_
        refine S_val rfl rfl (Y_move rfl) ?_
        refine S_val rfl rfl (Y_ixV (und rfl) (siz rfl) rfl rfl (fun _ hs => hs.rowRd 0 rfl) (nat_cast _) (dl_lt (by assumption))) ?_
        refine S_val rfl rfl (Y_loadV (und rfl) rfl rfl (fun _ hs => hs.rowRd 0 rfl) (dl_get (by assumption))) ?_
        refine S_val rfl rfl (Y_addN rfl rfl (nat_cast _) (nat_lit' _) (by omega)) ?_
        refine S_val rfl rfl (Y_ixV (und rfl) (siz rfl) rfl rfl (fun _ hs => hs.rowRd 0 rfl) (nat_cast _) (dl_lt (by assumption))) ?_
        refine S_storeR 0 (siz rfl) rfl rfl rfl (dl_lt (by assumption)) rfl ?_
        refine S_nil ?_
        refine X_blk ?_
        refine X_loop ?_
        refine ⟨(c + 1, z, _), hs', by dsimp only; omega, (by repeat (first | exact Env.sub_nil _ | (apply Env.sub_cons; rfl))), ?_⟩
        dsimp only
        have e3 : Q * 256 ^ (i + 1) + (c + 1) * 256 ^ i = (Q * 256 ^ (i + 1) + c * 256 ^ i) - (Q * 256 ^ (i + 1) + c * 256 ^ i) / 256 ^ i % 256 * 256 ^ i + ((Q * 256 ^ (i + 1) + c * 256 ^ i) / 256 ^ i % 256 + 1) * 256 ^ i := by
          rw [hdig, Nat.add_mul]
          omega
        rw [e3, ← dl_put (by omega) (by rw [hdig]; exact hc')]
        exact Emb.two 0 2 rfl rfl rfl
end Go.Proofs.YtchoncjikdfbgaaDoor
