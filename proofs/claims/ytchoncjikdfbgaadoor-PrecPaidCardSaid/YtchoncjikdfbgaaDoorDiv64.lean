import Derived.Test.YtchoncjikdfbgaaDoorWord3
/- A number of 128 bits, divided by one of 64. -/
namespace Go.Proofs.YtchoncjikdfbgaaDoor
open Go.RowKit
set_option maxRecDepth 20000
set_option maxHeartbeats 4000000

/-- A fact that isn't to be looked at by the way. -/
structure Hid (p : Prop) : Prop where
  out : p
/-- n1 and n0 are the divisor's halves; u, v: what is divided, v its lower half digit. -/
structure Half (u v n1 n0 : Nat) : Prop where
  h1 : 2147483648 ≤ n1 ∧ n1 < 4294967296
  h0 : n0 < 4294967296
  hv : v < 4294967296
  hu : u < n1 * 4294967296 + n0
theorem Half.high {u v n1 n0 q r : Nat} (h : Half u v n1 n0) (hr : u = q * n1 + r) (hc : 4294967296 ≤ q ∨ 4294967296 * r + v < q * n0) : (u * 4294967296 + v) / (n1 * 4294967296 + n0) < q := by
  obtain ⟨h1, h0, hv, hu⟩ := h
  rw [Nat.div_lt_iff_lt_mul (by omega)]
  rcases hc with hc | hc
  · have : 4294967296 * (n1 * 4294967296 + n0) ≤ q * (n1 * 4294967296 + n0) := Nat.mul_le_mul_right _ hc
    omega
  · rw [Nat.mul_add, ← Nat.mul_assoc, hr, Nat.add_mul]
    omega
theorem Half.low {u v n1 n0 q r : Nat} (_h : Half u v n1 n0) (hr : u = q * n1 + r) (hc : q * n0 ≤ 4294967296 * r + v) : q * (n1 * 4294967296 + n0) ≤ u * 4294967296 + v := by
  rw [Nat.mul_add, ← Nat.mul_assoc, hr, Nat.add_mul]
  omega
theorem Half.end_ {u v n1 n0 q r : Nat} (h : Half u v n1 n0) (hr : u = q * n1 + r) (hq : (u * 4294967296 + v) / (n1 * 4294967296 + n0) ≤ q) (hc : q * n0 ≤ 4294967296 * r + v) : q = (u * 4294967296 + v) / (n1 * 4294967296 + n0) := by
  have h1 := h.low hr hc
  have hy : 0 < n1 * 4294967296 + n0 := by have := h.h1; omega
  have := (Nat.le_div_iff_mul_le hy).2 h1
  omega
theorem Half.start {u v n1 n0 : Nat} (h : Half u v n1 n0) : (u * 4294967296 + v) / (n1 * 4294967296 + n0) ≤ u / n1 ∧ u / n1 ≤ 4294967297 := by
  obtain ⟨h1, h0, hv, hu⟩ := h
  constructor
  · rw [← Nat.lt_succ_iff, Nat.div_lt_iff_lt_mul (by omega)]
    have h2 := Nat.div_add_mod u n1
    have h3 := Nat.mod_lt u (show 0 < n1 by omega)
    have h4 : (u + 1) * 4294967296 ≤ (u / n1).succ * n1 * 4294967296 := by
      refine Nat.mul_le_mul_right _ ?_
      rw [Nat.succ_mul, Nat.mul_comm]
      omega
    rw [Nat.mul_add, ← Nat.mul_assoc]
    omega
  · have : u / n1 < 4294967298 := by
      rw [Nat.div_lt_iff_lt_mul (by omega)]
      omega
    omega
theorem Half.lt {u v n1 n0 : Nat} (h : Half u v n1 n0) : (u * 4294967296 + v) / (n1 * 4294967296 + n0) < 4294967296 := by
  obtain ⟨h1, h0, hv, hu⟩ := h
  rw [Nat.div_lt_iff_lt_mul (by omega)]
  omega

theorem bitLen_norm (y : Nat) (h0 : y ≠ 0) (h : y < 18446744073709551616) : bitLen y ≤ 64 ∧ 9223372036854775808 ≤ y * 2 ^ (64 - bitLen y) ∧ y * 2 ^ (64 - bitLen y) < 18446744073709551616 := by
  have h1 := bitLen_le64 y h
  unfold bitLen at h1 ⊢
  rw [if_neg h0] at h1 ⊢
  have h2 := (Nat.le_log2 h0).1 (Nat.le_refl (Nat.log2 y))
  have h3 := (Nat.log2_lt h0).1 (Nat.lt_succ_self (Nat.log2 y))
  refine ⟨h1, ?_, ?_⟩
  · have := Nat.mul_le_mul_right (2 ^ (64 - (Nat.log2 y + 1))) h2
    rw [← Nat.pow_add, show Nat.log2 y + (64 - (Nat.log2 y + 1)) = 63 by omega] at this
    exact this
  · have := (Nat.mul_lt_mul_right (Nat.pow_pos (n := 64 - (Nat.log2 y + 1)) (show 0 < 2 by omega))).2 h3
    rw [← Nat.pow_add, show (Nat.log2 y).succ + (64 - (Nat.log2 y + 1)) = 64 by omega] at this
    exact this
theorem lz64_any (x : Nat) (hx : x < 18446744073709551616) (w : World) : Fn Tryd.prog 79 #[.int .u64 x] w fun v N => v = .int .i64 ((64 - bitLen x : Nat) : Int) ∧ N = [] := by
  have hl := bitLen_le64 x hx
  refine Fn_of (args := [.int .u64 x]) Tryd.func79 rfl Tryd.ntmps79 Tryd.results79 (by simp) ?_
  refine T_seq ?_
  refine T_region ?_
  refine S_val rfl rfl (Y_assign rfl) ?_
  refine S_nil ?_
  refine X_seq ?_
  refine T_seq ?_
  refine T_region ?_
  refine S_val rfl rfl (Y_move rfl) ?_
  refine S_callV rfl rfl (bod rfl) (fun w hs => len64_any x hx _) rfl rfl ?_
  refine S_val rfl rfl (Y_subN rfl rfl (nat_lit' _) (nat_cast _) (by assumption) (Nat.le_of_ble_eq_true rfl)) ?_
  refine S_val rfl rfl (Y_assign rfl) ?_
  refine S_nil ?_
  refine X_seq ?_
  refine T_ret ?_
  ((first | refine X_fin_ret ?_ | refine X_fin ?_); exact ⟨[_], [], .cons (.tmp rfl) .nil, Emb.nil _, rfl, rfl⟩)
/-- What is divided, shifted up. -/
theorem shift_up (hi lo s : Nat) (hs : s ≤ 64) (hlo : lo < 18446744073709551616) (hh : hi * 2 ^ s < 18446744073709551616) :
    (hi * 2 ^ s % 18446744073709551616 ||| lo / 2 ^ (64 - s)) = hi * 2 ^ s + lo / 2 ^ (64 - s) ∧ (hi * 2 ^ s + lo / 2 ^ (64 - s)) * 18446744073709551616 + lo * 2 ^ s % 18446744073709551616 = (hi * 18446744073709551616 + lo) * 2 ^ s := by
  have e : (18446744073709551616 : Nat) = 2 ^ (64 - s) * 2 ^ s := by rw [← Nat.pow_add, show 64 - s + s = 64 by omega]
  have hl : lo / 2 ^ (64 - s) < 2 ^ s := Nat.div_lt_of_lt_mul (by rw [← e]; exact hlo)
  constructor
  · rw [Nat.mod_eq_of_lt hh, Nat.mul_comm hi, Nat.two_pow_add_eq_or_of_lt hl]
  · have h1 : lo * 2 ^ s % 18446744073709551616 = lo % 2 ^ (64 - s) * 2 ^ s := by rw [e, Nat.mul_mod_mul_right]
    have h2 := Nat.div_add_mod lo (2 ^ (64 - s))
    rw [h1, Nat.add_mul, Nat.add_mul, Nat.mul_right_comm]
    have h3 : lo / 2 ^ (64 - s) * 18446744073709551616 = (2 ^ (64 - s) * (lo / 2 ^ (64 - s))) * 2 ^ s := by
      rw [e, ← Nat.mul_assoc, Nat.mul_comm (lo / 2 ^ (64 - s))]
    rw [h3, Nat.add_assoc, ← Nat.add_mul, h2]

theorem recomb {U V R1 u1 u0 A D : Nat} (hV : V = u1 * 4294967296 + u0) (hR : R1 = U * 4294967296 + u1 - A) (hA : A ≤ U * 4294967296 + u1) (hD : D ≤ R1 * 4294967296 + u0) :
    U * 18446744073709551616 + V = (R1 * 4294967296 + u0 - D) + (A * 4294967296 + D) := by omega
theorem sub_mod {X D B : Nat} (h : D ≤ X) (hb : X - D < B) : (X % B + (B - D % B)) % B = X - D := by
  have hB : 0 < B := by omega
  have h1 := Nat.mod_lt D hB
  obtain ⟨Z, rfl⟩ : ∃ Z, X = Z + D := ⟨X - D, by omega⟩
  rw [Nat.add_sub_cancel] at hb ⊢
  have h2 : ((Z + D) % B + (B - D % B)) % B = (Z + D + (B - D % B)) % B := by rw [Nat.mod_add_mod]
  have h3 : Z + D + (B - D % B) = Z + (D / B + 1) * B := by
    have := Nat.div_add_mod D B
    rw [Nat.add_mul, Nat.one_mul, Nat.mul_comm (D / B)]
    omega
  rw [h2, h3, Nat.add_mul_mod_self_right, Nat.mod_eq_of_lt hb]
theorem div64_any (hi lo y : Nat) (hy : y < 18446744073709551616) (hlo : lo < 18446744073709551616) (hh : hi < y) (w : World) :
    Fn Tryd.prog 68 #[.int .u64 hi, .int .u64 lo, .int .u64 y] w fun v N => v = .tuple #[.int .u64 (((hi * 18446744073709551616 + lo) / y : Nat) : Int), .int .u64 (((hi * 18446744073709551616 + lo) % y : Nat) : Int)] ∧ N = [] := by
  by_cases h0 : hi = 0
  · subst h0
    rw [Nat.zero_mul, Nat.zero_add]
    refine Fn_of (args := [.int .u64 (0 : Nat), .int .u64 lo, .int .u64 y]) Tryd.func68 rfl Tryd.ntmps68 Tryd.results68 (by simp) ?_
    refine T_seq ?_
    refine T_region ?_
    refine S_val rfl rfl (Y_assign rfl) ?_
    refine S_val rfl rfl (Y_assign rfl) ?_
    refine S_nil ?_
    refine X_seq ?_
    refine T_seq ?_
    refine T_seq ?_
    refine T_region ?_
    refine S_val rfl rfl (Y_move rfl) ?_
    refine S_val rfl rfl (Y_eql_f rfl rfl (by omega)) ?_
    refine S_nil ?_
    refine X_seq ?_
    refine T_cond_false rfl ?_
    refine T_skip ?_
    refine X_seq ?_
    refine T_seq ?_
    refine T_seq ?_
    refine T_region ?_
    refine S_val rfl rfl (Y_move rfl) ?_
    refine S_val rfl rfl (Y_move rfl) ?_
    refine S_val rfl rfl (Y_leq_f rfl rfl (by omega)) ?_
    refine S_nil ?_
    refine X_seq ?_
    refine T_cond_false rfl ?_
    refine T_skip ?_
    refine X_seq ?_
    refine T_seq ?_
    refine T_seq ?_
    refine T_region ?_
    refine S_val rfl rfl (Y_move rfl) ?_
    refine S_val rfl rfl (Y_eql_t rfl rfl (by decide)) ?_
    refine S_nil ?_
    refine X_seq ?_
    refine T_cond_true rfl ?_
    refine T_seq ?_
    refine T_draw (by kernel_rfl) (by kernel_rfl) rfl ?_
    refine D0_val rfl rfl rfl (Y_move rfl) ?_
    refine D0_val rfl rfl rfl (Y_move rfl) ?_
    refine D0_val rfl rfl rfl (Y_quoN rfl rfl (nat_cast _) (nat_cast _) (by omega) (by first | with_reducible exact xi64 (by omega) | with_reducible exact x64 (by omega) | with_reducible exact x8 (by omega) | with_reducible exact x32 (by omega))) ?_
    refine D0_val rfl rfl rfl (Y_move rfl) ?_
    refine D0_val rfl rfl rfl (Y_move rfl) ?_
    refine D0_val rfl rfl rfl (Y_remN rfl rfl (nat_cast _) (nat_cast _) (by omega)) ?_
    refine D0_val rfl rfl rfl (Y_assign rfl) ?_
    refine D0_val rfl rfl rfl (Y_assign rfl) ?_
    refine D0_nil ?_
    refine X_seq ?_
    refine T_ret ?_
    refine X_seq_ret ?_
    ((first | refine X_fin_ret ?_ | refine X_fin ?_); exact ⟨[_, _], [], .cons (.tmp rfl) (.cons (.tmp rfl) .nil), Emb.nil _, rfl, rfl⟩)
  · obtain ⟨hbl, hy1, hy2⟩ := bitLen_norm y (by omega) hy
    obtain ⟨s, hs⟩ : ∃ s, s = 64 - bitLen y := ⟨_, rfl⟩
    rw [← hs] at hy1 hy2
    have hs64 : s ≤ 64 := by omega
    have hlz := fun w => lz64_any y hy w
    rw [← hs] at hlz
    have hP : 0 < 2 ^ s := Nat.pow_pos (by omega)
    have hhs : hi * 2 ^ s < 18446744073709551616 := Nat.lt_of_le_of_lt (Nat.mul_le_mul_right _ (Nat.le_of_lt hh)) hy2
    obtain ⟨hor, hU⟩ := shift_up hi lo s hs64 hlo hhs
    have hlos : lo / 2 ^ (64 - s) < 18446744073709551616 := Nat.lt_of_le_of_lt (Nat.div_le_self _ _) hlo
    have hym : y * 2 ^ s % 18446744073709551616 = y * 2 ^ s := Nat.mod_eq_of_lt hy2
    obtain ⟨Y, hY⟩ : ∃ Y, Y = y * 2 ^ s := ⟨_, rfl⟩
    obtain ⟨U, hUe⟩ : ∃ U, U = hi * 2 ^ s + lo / 2 ^ (64 - s) := ⟨_, rfl⟩
    obtain ⟨V, hV⟩ : ∃ V, V = lo * 2 ^ s % 18446744073709551616 := ⟨_, rfl⟩
    have hVl : V < 18446744073709551616 := by rw [hV]; exact Nat.mod_lt _ (by omega)
    have hres : (hi * 18446744073709551616 + lo) / y = (U * 18446744073709551616 + V) / Y ∧ (hi * 18446744073709551616 + lo) % y = (U * 18446744073709551616 + V) % Y / 2 ^ s := by
      rw [hUe, hV, hU, hY, Nat.mul_div_mul_right _ _ hP, Nat.mul_mod_mul_right, Nat.mul_div_cancel _ hP]
      exact ⟨rfl, rfl⟩
    rw [hres.1, hres.2]
    have hUY : U < Y := by
      have h1 : U * 18446744073709551616 + V < Y * 18446744073709551616 := by
        rw [hUe, hV, hU, hY, Nat.mul_right_comm]
        refine (Nat.mul_lt_mul_right hP).2 ?_
        have : (hi + 1) * 18446744073709551616 ≤ y * 18446744073709551616 := Nat.mul_le_mul_right _ hh
        omega
      omega
    obtain ⟨n1, hn1⟩ : ∃ n1, n1 = Y / 2 ^ 32 := ⟨_, rfl⟩
    obtain ⟨n0, hn0⟩ : ∃ n0, n0 = Y % 4294967296 := ⟨_, rfl⟩
    obtain ⟨u1, hu1⟩ : ∃ u1, u1 = V / 2 ^ 32 := ⟨_, rfl⟩
    obtain ⟨u0, hu0⟩ : ∃ u0, u0 = V % 4294967296 := ⟨_, rfl⟩
    have hYn : Y = n1 * 4294967296 + n0 := by omega
    have hY1 : 9223372036854775808 ≤ Y ∧ Y < 18446744073709551616 := by rw [hY]; exact ⟨hy1, hy2⟩
    have hVn : V = u1 * 4294967296 + u0 := by omega
    have hH1 : Half U u1 n1 n0 := ⟨by omega, by omega, by omega, by omega⟩
    obtain ⟨q1s, hq1s⟩ : ∃ q, (U * 4294967296 + u1) / (n1 * 4294967296 + n0) = q := ⟨_, rfl⟩
    have hst1 := hH1.start
    have hlt1 := hH1.lt
    rw [hq1s] at hst1 hlt1
    obtain ⟨R1, hR1⟩ : ∃ R, R = U * 4294967296 + u1 - q1s * Y := ⟨_, rfl⟩
    have hdm1 : q1s * Y ≤ U * 4294967296 + u1 ∧ R1 < Y := by
      have h1 := Nat.div_add_mod (U * 4294967296 + u1) Y
      have h2 := Nat.mod_lt (U * 4294967296 + u1) (show 0 < Y by omega)
      rw [hYn, hq1s, ← hYn, Nat.mul_comm] at h1
      omega
    have hH2 : Half R1 u0 n1 n0 := ⟨by omega, by omega, by omega, by omega⟩
    obtain ⟨q0s, hq0s⟩ : ∃ q, (R1 * 4294967296 + u0) / (n1 * 4294967296 + n0) = q := ⟨_, rfl⟩
    have hst2 := hH2.start
    have hlt2 := hH2.lt
    rw [hq0s] at hst2 hlt2
    have hdm2 : q0s * Y ≤ R1 * 4294967296 + u0 ∧ R1 * 4294967296 + u0 - q0s * Y < Y := by
      have h1 := Nat.div_add_mod (R1 * 4294967296 + u0) Y
      have h2 := Nat.mod_lt (R1 * 4294967296 + u0) (show 0 < Y by omega)
      rw [hYn, hq0s, ← hYn, Nat.mul_comm] at h1
      omega
    have hd1 := Nat.div_mul_le_self U n1
    have hd2 := Nat.div_mul_le_self R1 n1
    have hr01 : U = U / n1 * n1 + (U - U / n1 * n1) := by omega
    have hr02 : R1 = R1 / n1 * n1 + (R1 - R1 / n1 * n1) := by omega
    have hr11 : U - U / n1 * n1 < 4294967296 := by
      have h1 := Nat.div_add_mod U n1
      have h3 := hH1.h1
      have h2 := Nat.mod_lt U (show 0 < n1 by omega)
      rw [Nat.mul_comm] at h1
      omega
    have hr12 : R1 - R1 / n1 * n1 < 4294967296 := by
      have h1 := Nat.div_add_mod R1 n1
      have h3 := hH1.h1
      have h2 := Nat.mod_lt R1 (show 0 < n1 by omega)
      rw [Nat.mul_comm] at h1
      omega
    have hb3 := hH1.hv
    have hb4 := hH2.hv
    have hre1 : (U * 4294967296 % 18446744073709551616 + u1 + (18446744073709551616 - q1s * Y % 18446744073709551616)) % 18446744073709551616 = R1 := by
      rw [← Nat.mod_eq_of_lt (show U * 4294967296 % 18446744073709551616 + u1 < 18446744073709551616 by omega)]
      have h5 := Nat.lt_trans hdm1.2 hY1.2
      rw [hR1] at h5
      rw [show (U * 4294967296 % 18446744073709551616 + u1) % 18446744073709551616 = (U * 4294967296 + u1) % 18446744073709551616 from Nat.mod_add_mod _ _ _, hR1]
      exact sub_mod hdm1.1 h5
    have hre2 : (R1 * 4294967296 % 18446744073709551616 + u0 + (18446744073709551616 - q0s * Y % 18446744073709551616)) % 18446744073709551616 = R1 * 4294967296 + u0 - q0s * Y := by
      rw [← Nat.mod_eq_of_lt (show R1 * 4294967296 % 18446744073709551616 + u0 < 18446744073709551616 by omega)]
      rw [show (R1 * 4294967296 % 18446744073709551616 + u0) % 18446744073709551616 = (R1 * 4294967296 + u0) % 18446744073709551616 from Nat.mod_add_mod _ _ _]
      exact sub_mod hdm2.1 (Nat.lt_trans hdm2.2 hY1.2)
    have hall : U * 18446744073709551616 + V = (R1 * 4294967296 + u0 - q0s * Y) + (q1s * 4294967296 + q0s) * Y := by
      have e1 : q1s * 4294967296 * Y = q1s * Y * 4294967296 := Nat.mul_right_comm _ _ _
      rw [Nat.add_mul, e1]
      exact recomb hVn hR1 hdm1.1 hdm2.1
    have hf1 : (U * 18446744073709551616 + V) / Y = q1s * 4294967296 + q0s := by
      rw [hall, Nat.add_mul_div_right _ _ (by omega), Nat.div_eq_of_lt hdm2.2, Nat.zero_add]
    have hf2 : (U * 18446744073709551616 + V) % Y = R1 * 4294967296 + u0 - q0s * Y := by
      rw [hall, Nat.add_mul_mod_self_right, Nat.mod_eq_of_lt hdm2.2]
    rw [hf1, hf2, ← hre2]
    have P1 := Hid.mk (show ((U * 4294967296 + u1) / (n1 * 4294967296 + n0) = q1s) ∧ (q1s ≤ U / n1 ∧ U / n1 ≤ 4294967297) ∧ (U = U / n1 * n1 + (U - U / n1 * n1)) ∧ U - U / n1 * n1 < 4294967296 from ⟨hq1s, hst1, hr01, hr11⟩)
    have P2 := Hid.mk (show ((R1 * 4294967296 + u0) / (n1 * 4294967296 + n0) = q0s) ∧ (q0s ≤ R1 / n1 ∧ R1 / n1 ≤ 4294967297) ∧ (R1 = R1 / n1 * n1 + (R1 - R1 / n1 * n1)) ∧ R1 - R1 / n1 * n1 < 4294967296 from ⟨hq0s, hst2, hr02, hr12⟩)
    have hUl : U < 18446744073709551616 := by omega
    have mu1 : U / n1 * n1 < 2 ^ 64 := by omega
    have mu2 : R1 / n1 * n1 < 2 ^ 64 := by omega
    rw [← hre1] at mu2 hd2
    have pre1 : (hi * 2 ^ s % 18446744073709551616 ||| lo / 2 ^ (64 - s)) = U := by rw [hor, hUe]
    have pre2 : y * 2 ^ s % 18446744073709551616 = Y := by rw [hym, hY]
    have q1 : (hi * 2 ^ s % 18446744073709551616 ||| lo / 2 ^ (64 - s)) < 18446744073709551616 := by rw [pre1]; omega
    have q2 : y * 2 ^ s % 18446744073709551616 / 2 ^ 32 ≠ 0 := by rw [pre2]; omega
    have q3 : (hi * 2 ^ s % 18446744073709551616 ||| lo / 2 ^ (64 - s)) / (y * 2 ^ s % 18446744073709551616 / 2 ^ 32) * (y * 2 ^ s % 18446744073709551616 / 2 ^ 32) < 2 ^ 64 := by rw [pre1, pre2, ← hn1]; exact mu1
    have q4 : (hi * 2 ^ s % 18446744073709551616 ||| lo / 2 ^ (64 - s)) / (y * 2 ^ s % 18446744073709551616 / 2 ^ 32) * (y * 2 ^ s % 18446744073709551616 / 2 ^ 32) ≤ (hi * 2 ^ s % 18446744073709551616 ||| lo / 2 ^ (64 - s)) := by rw [pre1, pre2, ← hn1]; exact hd1
    have hn1p : n1 ≠ 0 := by have := hH1.h1; omega
    obtain ⟨hb1, hb2⟩ : n1 < 4294967296 ∧ n0 < 4294967296 := ⟨hH1.h1.2, hH1.h0⟩
    have P0 := Hid.mk (And.intro pre1 (And.intro pre2 (And.intro hn1 (And.intro hn0 (And.intro hV (And.intro hu1 hu0))))))
    have hyp : y ≠ 0 := by omega
    have hh' : ¬ y ≤ hi := by omega
    clear hall hf1 hf2 hre2 hdm1 hdm2 hr01 hr02 hr11 hr12 hq1s hq0s hst1 hst2 hd1 mu1 hR1 hVn hY1 hYn hUY hres hV hu1 hu0 hn1 hn0 hUe hY hhs hor hU hym hP hh hVl pre1 pre2 hs
    clear hy1 hy2
    refine Fn_of (args := [.int .u64 hi, .int .u64 lo, .int .u64 y]) Tryd.func68 rfl Tryd.ntmps68 Tryd.results68 (by simp) ?_
    refine T_seq ?_
    refine T_region ?_
    refine S_val rfl rfl (Y_assign rfl) ?_
    refine S_val rfl rfl (Y_assign rfl) ?_
    refine S_nil ?_
    refine X_seq ?_
    refine T_seq ?_
    refine T_seq ?_
    refine T_region ?_
    refine S_val rfl rfl (Y_move rfl) ?_
    refine S_val rfl rfl (Y_eql_f rfl rfl (by omega)) ?_
    refine S_nil ?_
    refine X_seq ?_
    refine T_cond_false rfl ?_
    refine T_skip ?_
    refine X_seq ?_
    refine T_seq ?_
    refine T_seq ?_
    refine T_region ?_
    refine S_val rfl rfl (Y_move rfl) ?_
    refine S_val rfl rfl (Y_move rfl) ?_
    refine S_val rfl rfl (Y_leq_f rfl rfl (by omega)) ?_
    refine S_nil ?_
    refine X_seq ?_
    refine T_cond_false rfl ?_
    refine T_skip ?_
    refine X_seq ?_
    refine T_seq ?_
    refine T_seq ?_
    refine T_region ?_
    refine S_val rfl rfl (Y_move rfl) ?_
    refine S_val rfl rfl (Y_eql_f rfl rfl (by omega)) ?_
    refine S_nil ?_
    refine X_seq ?_
    refine T_cond_false rfl ?_
    refine T_skip ?_
    refine X_seq ?_
    refine T_seq ?_
    refine T_region ?_
    refine S_val rfl rfl (Y_move rfl) ?_
    refine S_callV rfl rfl (bod rfl) (fun w hs => hlz _) rfl rfl ?_
    refine S_val rfl rfl (Y_conv (und rfl) (und rfl) rfl (wu64 (by omega) (by omega))) ?_
    refine S_val rfl rfl (Y_assign rfl) ?_
    refine S_nil ?_
    refine X_seq ?_
    refine T_seq ?_
    refine T_region ?_
    refine S_val rfl rfl (Y_move rfl) ?_
    refine S_val rfl rfl (Y_move rfl) ?_
    refine S_val rfl rfl (Y_shlN rfl rfl (nat_cast _) (nat_cast _) rfl pw64) ?_
    refine S_val rfl rfl (Y_assign rfl) ?_
    refine S_nil ?_
    refine X_seq ?_
    refine T_seq ?_
    refine T_region ?_
    refine S_val rfl rfl (Y_move rfl) ?_
    refine S_val rfl rfl (Y_shrN rfl rfl (nat_cast _) (nat_lit' _) (by simp only [IntKind.bits]; omega)) ?_
    refine S_val rfl rfl (Y_assign rfl) ?_
    refine S_nil ?_
    refine X_seq ?_
    refine T_seq ?_
    refine T_region ?_
    refine S_val rfl rfl (Y_move rfl) ?_
    refine S_val rfl rfl (Y_mask32 rfl rfl (nat_cast _) (by omega)) ?_
    refine S_val rfl rfl (Y_assign rfl) ?_
    refine S_nil ?_
    refine X_seq ?_
    refine T_seq ?_
    refine T_region ?_
    refine S_val rfl rfl (Y_move rfl) ?_
    refine S_val rfl rfl (Y_move rfl) ?_
    refine S_val rfl rfl (Y_shlN rfl rfl (nat_cast _) (nat_cast _) rfl pw64) ?_
    refine S_val rfl rfl (Y_move rfl) ?_
    refine S_val rfl rfl (Y_move rfl) ?_
    refine S_val rfl rfl (Y_subU rfl rfl (nat_lit' _) (nat_cast _) rfl (by assumption) (by simp only [IntKind.bits]; omega)) ?_
    refine S_val rfl rfl (Y_shrN rfl rfl (nat_cast _) (nat_cast _) (by simp only [IntKind.bits]; assumption)) ?_
    refine S_val rfl rfl (Y_or rfl rfl (nat_cast _) (nat_cast _) rfl (by simp only [IntKind.bits]; omega) (by simp only [IntKind.bits]; assumption)) ?_
    refine S_val rfl rfl (Y_assign rfl) ?_
    refine S_nil ?_
    refine X_seq ?_
    refine T_seq ?_
    refine T_region ?_
    refine S_val rfl rfl (Y_move rfl) ?_
    refine S_val rfl rfl (Y_move rfl) ?_
    refine S_val rfl rfl (Y_shlN rfl rfl (nat_cast _) (nat_cast _) rfl pw64) ?_
    refine S_val rfl rfl (Y_assign rfl) ?_
    refine S_nil ?_
    refine X_seq ?_
    refine T_seq ?_
    refine T_region ?_
    refine S_val rfl rfl (Y_move rfl) ?_
    refine S_val rfl rfl (Y_shrN rfl rfl (nat_cast _) (nat_lit' _) (by simp only [IntKind.bits]; omega)) ?_
    refine S_val rfl rfl (Y_assign rfl) ?_
    refine S_nil ?_
    refine X_seq ?_
    refine T_seq ?_
    refine T_region ?_
    refine S_val rfl rfl (Y_move rfl) ?_
    refine S_val rfl rfl (Y_mask32 rfl rfl (nat_cast _) (by omega)) ?_
    refine S_val rfl rfl (Y_assign rfl) ?_
    refine S_nil ?_
    refine X_seq ?_
    refine T_seq ?_
    refine T_region ?_
    refine S_val rfl rfl (Y_move rfl) ?_
    refine S_val rfl rfl (Y_move rfl) ?_
    refine S_val rfl rfl (Y_quoN rfl rfl (nat_cast _) (nat_cast _) (by omega) (by first | with_reducible exact xi64 (by omega) | with_reducible exact x64 (by omega) | with_reducible exact x8 (by omega) | with_reducible exact x32 (by omega))) ?_
    refine S_val rfl rfl (Y_assign rfl) ?_
    refine S_nil ?_
    refine X_seq ?_
    refine T_seq ?_
    refine T_region ?_
    refine S_val rfl rfl (Y_move rfl) ?_
    refine S_val rfl rfl (Y_move rfl) ?_
    refine S_val rfl rfl (Y_move rfl) ?_
    refine S_val rfl rfl (Y_mulU rfl rfl (nat_cast _) (nat_cast _) rfl (by simp only [IntKind.bits]; assumption)) ?_
    refine S_val rfl rfl (Y_subU rfl rfl (nat_cast _) (nat_cast _) rfl (by assumption) (by simp only [IntKind.bits]; assumption)) ?_
    refine S_val rfl rfl (Y_assign rfl) ?_
    refine S_nil ?_
    refine X_seq ?_
    refine T_seq ?_
    refine T_block ?_
    obtain ⟨pre1, pre2, hn1, hn0, hV, hu1, hu0⟩ := P0.out
    rw [pre1, pre2, ← hn1, ← hn0, ← hV, ← hu1, ← hu0]
    clear q1 q2 q3 q4 pre1 pre2 hn1 hn0 hV hu1 hu0 P0 hlz hlo hy hyp hh' h0 hbl hs64 hlos
    refine T_loop (α := Nat × Nat) (fun a => q1s ≤ a.1 ∧ a.1 ≤ 4294967297 ∧ U = a.1 * n1 + a.2 ∧ a.2 < 4294967296)
      (fun a => [(2, .int .u64 Y), (8, .int .u64 s), (9, .int .u64 n1), (10, .int .u64 n0), (11, .int .u64 U), (13, .int .u64 u1), (14, .int .u64 u0), (15, .int .u64 a.1), (16, .int .u64 a.2)])
      (fun a => []) (fun a => a.1) (U / n1, U - U / n1 * n1) ⟨P1.out.2.1.1, P1.out.2.1.2, P1.out.2.2.1, P1.out.2.2.2⟩ (by repeat (first | exact Env.sub_nil _ | (apply Env.sub_cons; rfl))) [] rfl ?_
    rintro ⟨q, r⟩ ⟨hq1, hq2, hq3, hq4⟩
    dsimp only at hq1 hq2 hq3 hq4 ⊢
    have P3 := Hid.mk hq3
    clear hq3
    by_cases c1 : 4294967296 ≤ q
    · have hlt := hH1.high P3.out (.inl c1)
      rw [P1.out.1] at hlt
      have hqm : (q - 1) * n1 + n1 = q * n1 := by rw [← Nat.succ_mul]; congr 1; omega
      by_cases c3 : 4294967296 ≤ r + n1
      · have hpe : q - 1 = q1s := by
          rw [← P1.out.1]
          refine hH1.end_ (r := r + n1) (by have h3 := P3.out; omega) (by rw [P1.out.1]; omega) ?_
          have : (q - 1) * n0 ≤ 4294967296 * 4294967295 := Nat.mul_le_mul (by omega) (by omega)
          omega
        rw [← hpe] at hre1 mu2 hd2 hlt1 ⊢
        refine T_seq ?_
        refine T_seq ?_
        refine T_region ?_
        refine S_val rfl rfl (Y_move rfl) ?_
        refine S_val rfl rfl (Y_geq_t rfl rfl (by omega)) ?_
        refine S_val rfl rfl (Y_move rfl) ?_
        refine S_skip rfl rfl ?_
        refine S_skip rfl rfl ?_
        refine S_skip rfl rfl ?_
        refine S_skip rfl rfl ?_
        refine S_skip rfl rfl ?_
        refine S_skip rfl rfl ?_
        refine S_skip rfl rfl ?_
        refine S_skip rfl rfl ?_
        refine S_val rfl rfl (Y_pick_t rfl rfl) ?_
        refine S_nil ?_
        refine X_seq ?_
        refine T_cond_true rfl ?_
        refine T_skip ?_
        refine X_seq ?_
        refine T_block ?_
        refine T_seq ?_
        refine T_region ?_
        refine S_val rfl rfl (Y_move rfl) ?_
        refine S_val rfl rfl (Y_subU rfl rfl (nat_cast _) (nat_lit' _) rfl (by omega) (by simp only [IntKind.bits]; omega)) ?_
        refine S_val rfl rfl (Y_assign rfl) ?_
        refine S_nil ?_
        refine X_seq ?_
        refine T_seq ?_
        refine T_region ?_
        refine S_val rfl rfl (Y_move rfl) ?_
        refine S_val rfl rfl (Y_move rfl) ?_
        refine S_val rfl rfl (Y_addU rfl rfl (nat_cast _) (nat_cast _) rfl (by simp only [IntKind.bits]; omega)) ?_
        refine S_val rfl rfl (Y_assign rfl) ?_
        refine S_nil ?_
        refine X_seq ?_
        refine T_seq ?_
        refine T_region ?_
        refine S_val rfl rfl (Y_move rfl) ?_
        refine S_val rfl rfl (Y_geq_t rfl rfl (by omega)) ?_
        refine S_nil ?_
        refine X_seq ?_
        refine T_cond_true rfl ?_
        refine T_exit ?_
        refine X_blk_miss rfl ?_
        refine X_loop_exit ?_
        refine X_blk_hit rfl ?_
        refine X_seq ?_
        refine T_seq ?_
        refine T_region ?_
        refine S_val rfl rfl (Y_move rfl) ?_
        refine S_val rfl rfl (Y_mul64 rfl rfl (nat_cast _) (nat_lit' _)) ?_
        refine S_val rfl rfl (Y_move rfl) ?_
        refine S_val rfl rfl (Y_addU rfl rfl (nat_cast _) (nat_cast _) rfl (by simp only [IntKind.bits]; omega)) ?_
        refine S_val rfl rfl (Y_move rfl) ?_
        refine S_val rfl rfl (Y_move rfl) ?_
        refine S_val rfl rfl (Y_mul64 rfl rfl (nat_cast _) (nat_cast _)) ?_
        refine S_val rfl rfl (Y_sub64 rfl rfl (nat_cast _) (nat_cast _) (by omega)) ?_
        refine S_val rfl rfl (Y_assign rfl) ?_
        refine S_nil ?_
        refine X_seq ?_
        refine T_seq ?_
        refine T_region ?_
        refine S_val rfl rfl (Y_move rfl) ?_
        refine S_val rfl rfl (Y_move rfl) ?_
        refine S_val rfl rfl (Y_quoN rfl rfl (nat_cast _) (nat_cast _) (by omega) (by first | with_reducible exact xi64 (by omega) | with_reducible exact x64 (by omega) | with_reducible exact x8 (by omega) | with_reducible exact x32 (by omega))) ?_
        refine S_val rfl rfl (Y_assign rfl) ?_
        refine S_nil ?_
        refine X_seq ?_
        refine T_seq ?_
        refine T_region ?_
        refine S_val rfl rfl (Y_move rfl) ?_
        refine S_val rfl rfl (Y_move rfl) ?_
        refine S_val rfl rfl (Y_move rfl) ?_
        refine S_val rfl rfl (Y_mulU rfl rfl (nat_cast _) (nat_cast _) rfl (by simp only [IntKind.bits]; assumption)) ?_
        refine S_val rfl rfl (Y_subU rfl rfl (nat_cast _) (nat_cast _) rfl (by assumption) (by simp only [IntKind.bits]; omega)) ?_
        refine S_val rfl rfl (Y_assign rfl) ?_
        refine S_nil ?_
        refine X_seq ?_
        refine T_seq ?_
        refine T_block ?_
        rw [hre1]
        clear P1 P3 hq1 hq2 hq4 hre1 mu2 hd2 hH1 hUl
        first | clear hlt c3 hqn c2 hqm | clear hlt c3 hqm | clear hqn c2
        try clear c1 hpe
        refine T_loop (α := Nat × Nat) (fun a => q0s ≤ a.1 ∧ a.1 ≤ 4294967297 ∧ R1 = a.1 * n1 + a.2 ∧ a.2 < 4294967296)
          (fun a => [(2, .int .u64 Y), (8, .int .u64 s), (9, .int .u64 n1), (10, .int .u64 n0), (13, .int .u64 u1), (14, .int .u64 u0), (15, .int .u64 (q - 1 : Nat)), (16, .int .u64 a.2), (17, .int .u64 R1), (18, .int .u64 a.1)])
          (fun a => []) (fun a => a.1) (R1 / n1, R1 - R1 / n1 * n1) ⟨P2.out.2.1.1, P2.out.2.1.2, P2.out.2.2.1, P2.out.2.2.2⟩ (by repeat (first | exact Env.sub_nil _ | (apply Env.sub_cons; rfl))) [] rfl ?_
        rintro ⟨q, r⟩ ⟨hq1, hq2, hq3, hq4⟩
        dsimp only at hq1 hq2 hq3 hq4 ⊢
        have P3 := Hid.mk hq3
        clear hq3
        by_cases c1 : 4294967296 ≤ q
        · have hlt := hH2.high P3.out (.inl c1)
          rw [P2.out.1] at hlt
          have hqm : (q - 1) * n1 + n1 = q * n1 := by rw [← Nat.succ_mul]; congr 1; omega
          by_cases c3 : 4294967296 ≤ r + n1
          · have hpe : q - 1 = q0s := by
              rw [← P2.out.1]
              refine hH2.end_ (r := r + n1) (by have h3 := P3.out; omega) (by rw [P2.out.1]; omega) ?_
              have : (q - 1) * n0 ≤ 4294967296 * 4294967295 := Nat.mul_le_mul (by omega) (by omega)
              omega
            rw [← hpe]
            refine T_seq ?_
            refine T_seq ?_
            refine T_region ?_
            refine S_val rfl rfl (Y_move rfl) ?_
            refine S_val rfl rfl (Y_geq_t rfl rfl (by omega)) ?_
            refine S_val rfl rfl (Y_move rfl) ?_
            refine S_skip rfl rfl ?_
            refine S_skip rfl rfl ?_
            refine S_skip rfl rfl ?_
            refine S_skip rfl rfl ?_
            refine S_skip rfl rfl ?_
            refine S_skip rfl rfl ?_
            refine S_skip rfl rfl ?_
            refine S_skip rfl rfl ?_
            refine S_val rfl rfl (Y_pick_t rfl rfl) ?_
            refine S_nil ?_
            refine X_seq ?_
            refine T_cond_true rfl ?_
            refine T_skip ?_
            refine X_seq ?_
            refine T_block ?_
            refine T_seq ?_
            refine T_region ?_
            refine S_val rfl rfl (Y_move rfl) ?_
            refine S_val rfl rfl (Y_subU rfl rfl (nat_cast _) (nat_lit' _) rfl (by omega) (by simp only [IntKind.bits]; omega)) ?_
            refine S_val rfl rfl (Y_assign rfl) ?_
            refine S_nil ?_
            refine X_seq ?_
            refine T_seq ?_
            refine T_region ?_
            refine S_val rfl rfl (Y_move rfl) ?_
            refine S_val rfl rfl (Y_move rfl) ?_
            refine S_val rfl rfl (Y_addU rfl rfl (nat_cast _) (nat_cast _) rfl (by simp only [IntKind.bits]; omega)) ?_
            refine S_val rfl rfl (Y_assign rfl) ?_
            refine S_nil ?_
            refine X_seq ?_
            refine T_seq ?_
            refine T_region ?_
            refine S_val rfl rfl (Y_move rfl) ?_
            refine S_val rfl rfl (Y_geq_t rfl rfl (by omega)) ?_
            refine S_nil ?_
            refine X_seq ?_
            refine T_cond_true rfl ?_
            refine T_exit ?_
            refine X_blk_miss rfl ?_
            refine X_loop_exit ?_
            refine X_blk_hit rfl ?_
            refine X_seq ?_
            refine T_seq ?_
            refine T_region ?_
            refine S_val rfl rfl (Y_move rfl) ?_
            refine S_val rfl rfl (Y_mulU rfl rfl (nat_cast _) (nat_lit' _) rfl (by simp only [IntKind.bits]; omega)) ?_
            refine S_val rfl rfl (Y_move rfl) ?_
            refine S_val rfl rfl (Y_addU rfl rfl (nat_cast _) (nat_cast _) rfl (by simp only [IntKind.bits]; omega)) ?_
            refine S_val rfl rfl (Y_move rfl) ?_
            refine S_val rfl rfl (Y_mul64 rfl rfl (nat_cast _) (nat_lit' _)) ?_
            refine S_val rfl rfl (Y_move rfl) ?_
            refine S_val rfl rfl (Y_addU rfl rfl (nat_cast _) (nat_cast _) rfl (by simp only [IntKind.bits]; omega)) ?_
            refine S_val rfl rfl (Y_move rfl) ?_
            refine S_val rfl rfl (Y_move rfl) ?_
            refine S_val rfl rfl (Y_mul64 rfl rfl (nat_cast _) (nat_cast _)) ?_
            refine S_val rfl rfl (Y_sub64 rfl rfl (nat_cast _) (nat_cast _) (by omega)) ?_
            refine S_val rfl rfl (Y_move rfl) ?_
            refine S_val rfl rfl (Y_shrN rfl rfl (nat_cast _) (nat_cast _) (by simp only [IntKind.bits]; omega)) ?_
            refine S_val rfl rfl (Y_assign rfl) ?_
            refine S_val rfl rfl (Y_assign rfl) ?_
            refine S_nil ?_
            refine X_seq ?_
            refine T_ret ?_
            ((first | refine X_fin_ret ?_ | refine X_fin ?_); exact ⟨[_, _], [], .cons (.tmp rfl) (.cons (.tmp rfl) .nil), Emb.nil _, rfl, rfl⟩)
          · refine T_seq ?_
            refine T_seq ?_
            refine T_region ?_
            refine S_val rfl rfl (Y_move rfl) ?_
            refine S_val rfl rfl (Y_geq_t rfl rfl (by omega)) ?_
            refine S_val rfl rfl (Y_move rfl) ?_
            refine S_skip rfl rfl ?_
            refine S_skip rfl rfl ?_
            refine S_skip rfl rfl ?_
            refine S_skip rfl rfl ?_
            refine S_skip rfl rfl ?_
            refine S_skip rfl rfl ?_
            refine S_skip rfl rfl ?_
            refine S_skip rfl rfl ?_
            refine S_val rfl rfl (Y_pick_t rfl rfl) ?_
            refine S_nil ?_
            refine X_seq ?_
            refine T_cond_true rfl ?_
            refine T_skip ?_
            refine X_seq ?_
            refine T_block ?_
            refine T_seq ?_
            refine T_region ?_
            refine S_val rfl rfl (Y_move rfl) ?_
            refine S_val rfl rfl (Y_subU rfl rfl (nat_cast _) (nat_lit' _) rfl (by omega) (by simp only [IntKind.bits]; omega)) ?_
            refine S_val rfl rfl (Y_assign rfl) ?_
            refine S_nil ?_
            refine X_seq ?_
            refine T_seq ?_
            refine T_region ?_
            refine S_val rfl rfl (Y_move rfl) ?_
            refine S_val rfl rfl (Y_move rfl) ?_
            refine S_val rfl rfl (Y_addU rfl rfl (nat_cast _) (nat_cast _) rfl (by simp only [IntKind.bits]; omega)) ?_
            refine S_val rfl rfl (Y_assign rfl) ?_
            refine S_nil ?_
            refine X_seq ?_
            refine T_seq ?_
            refine T_region ?_
            refine S_val rfl rfl (Y_move rfl) ?_
            refine S_val rfl rfl (Y_geq_f rfl rfl (by omega)) ?_
            refine S_nil ?_
            refine X_seq ?_
            refine T_cond_false rfl ?_
            refine T_skip ?_
            refine X_blk ?_
            refine X_loop ?_
            exact ⟨(q - 1, r + n1), ⟨by dsimp only; omega, by dsimp only; omega, by have h3 := P3.out; dsimp only; omega, by dsimp only; omega⟩, by dsimp only; omega, (by repeat (first | exact Env.sub_nil _ | (apply Env.sub_cons; rfl))), [], rfl⟩
        · have hqn : q * n0 < 18446744073709551616 := Nat.lt_of_le_of_lt (Nat.mul_le_mul (show q ≤ 4294967295 by omega) (show n0 ≤ 4294967295 by omega)) (by omega)
          by_cases c2 : 4294967296 * r + u0 < q * n0
          · have hlt := hH2.high P3.out (.inr c2)
            rw [P2.out.1] at hlt
            have hqm : (q - 1) * n1 + n1 = q * n1 := by rw [← Nat.succ_mul]; congr 1; omega
            by_cases c3 : 4294967296 ≤ r + n1
            · have hpe : q - 1 = q0s := by
                rw [← P2.out.1]
                refine hH2.end_ (r := r + n1) (by have h3 := P3.out; omega) (by rw [P2.out.1]; omega) ?_
                have : (q - 1) * n0 ≤ 4294967296 * 4294967295 := Nat.mul_le_mul (by omega) (by omega)
                omega
              rw [← hpe]
              refine T_seq ?_
              refine T_seq ?_
              refine T_region ?_
              refine S_val rfl rfl (Y_move rfl) ?_
              refine S_val rfl rfl (Y_geq_f rfl rfl (by omega)) ?_
              refine S_val rfl rfl (Y_move rfl) ?_
              refine S_val rfl rfl (Y_move rfl) ?_
              refine S_val rfl rfl (Y_move rfl) ?_
              refine S_val rfl rfl (Y_mulU rfl rfl (nat_cast _) (nat_cast _) rfl (by simp only [IntKind.bits]; assumption)) ?_
              refine S_val rfl rfl (Y_move rfl) ?_
              refine S_val rfl rfl (Y_mulU rfl rfl (nat_lit' _) (nat_cast _) rfl (by simp only [IntKind.bits]; omega)) ?_
              refine S_val rfl rfl (Y_move rfl) ?_
              refine S_val rfl rfl (Y_addU rfl rfl (nat_cast _) (nat_cast _) rfl (by simp only [IntKind.bits]; omega)) ?_
              refine S_val rfl rfl (Y_gtr_t rfl rfl (by omega)) ?_
              refine S_val rfl rfl (Y_pick_f rfl rfl) ?_
              refine S_nil ?_
              refine X_seq ?_
              refine T_cond_true rfl ?_
              refine T_skip ?_
              refine X_seq ?_
              refine T_block ?_
              refine T_seq ?_
              refine T_region ?_
              refine S_val rfl rfl (Y_move rfl) ?_
              refine S_val rfl rfl (Y_subU rfl rfl (nat_cast _) (nat_lit' _) rfl (by omega) (by simp only [IntKind.bits]; omega)) ?_
              refine S_val rfl rfl (Y_assign rfl) ?_
              refine S_nil ?_
              refine X_seq ?_
              refine T_seq ?_
              refine T_region ?_
              refine S_val rfl rfl (Y_move rfl) ?_
              refine S_val rfl rfl (Y_move rfl) ?_
              refine S_val rfl rfl (Y_addU rfl rfl (nat_cast _) (nat_cast _) rfl (by simp only [IntKind.bits]; omega)) ?_
              refine S_val rfl rfl (Y_assign rfl) ?_
              refine S_nil ?_
              refine X_seq ?_
              refine T_seq ?_
              refine T_region ?_
              refine S_val rfl rfl (Y_move rfl) ?_
              refine S_val rfl rfl (Y_geq_t rfl rfl (by omega)) ?_
              refine S_nil ?_
              refine X_seq ?_
              refine T_cond_true rfl ?_
              refine T_exit ?_
              refine X_blk_miss rfl ?_
              refine X_loop_exit ?_
              refine X_blk_hit rfl ?_
              refine X_seq ?_
              refine T_seq ?_
              refine T_region ?_
              refine S_val rfl rfl (Y_move rfl) ?_
              refine S_val rfl rfl (Y_mulU rfl rfl (nat_cast _) (nat_lit' _) rfl (by simp only [IntKind.bits]; omega)) ?_
              refine S_val rfl rfl (Y_move rfl) ?_
              refine S_val rfl rfl (Y_addU rfl rfl (nat_cast _) (nat_cast _) rfl (by simp only [IntKind.bits]; omega)) ?_
              refine S_val rfl rfl (Y_move rfl) ?_
              refine S_val rfl rfl (Y_mul64 rfl rfl (nat_cast _) (nat_lit' _)) ?_
              refine S_val rfl rfl (Y_move rfl) ?_
              refine S_val rfl rfl (Y_addU rfl rfl (nat_cast _) (nat_cast _) rfl (by simp only [IntKind.bits]; omega)) ?_
              refine S_val rfl rfl (Y_move rfl) ?_
              refine S_val rfl rfl (Y_move rfl) ?_
              refine S_val rfl rfl (Y_mul64 rfl rfl (nat_cast _) (nat_cast _)) ?_
              refine S_val rfl rfl (Y_sub64 rfl rfl (nat_cast _) (nat_cast _) (by omega)) ?_
              refine S_val rfl rfl (Y_move rfl) ?_
              refine S_val rfl rfl (Y_shrN rfl rfl (nat_cast _) (nat_cast _) (by simp only [IntKind.bits]; omega)) ?_
              refine S_val rfl rfl (Y_assign rfl) ?_
              refine S_val rfl rfl (Y_assign rfl) ?_
              refine S_nil ?_
              refine X_seq ?_
              refine T_ret ?_
              ((first | refine X_fin_ret ?_ | refine X_fin ?_); exact ⟨[_, _], [], .cons (.tmp rfl) (.cons (.tmp rfl) .nil), Emb.nil _, rfl, rfl⟩)
            · refine T_seq ?_
              refine T_seq ?_
              refine T_region ?_
              refine S_val rfl rfl (Y_move rfl) ?_
              refine S_val rfl rfl (Y_geq_f rfl rfl (by omega)) ?_
              refine S_val rfl rfl (Y_move rfl) ?_
              refine S_val rfl rfl (Y_move rfl) ?_
              refine S_val rfl rfl (Y_move rfl) ?_
              refine S_val rfl rfl (Y_mulU rfl rfl (nat_cast _) (nat_cast _) rfl (by simp only [IntKind.bits]; assumption)) ?_
              refine S_val rfl rfl (Y_move rfl) ?_
              refine S_val rfl rfl (Y_mulU rfl rfl (nat_lit' _) (nat_cast _) rfl (by simp only [IntKind.bits]; omega)) ?_
              refine S_val rfl rfl (Y_move rfl) ?_
              refine S_val rfl rfl (Y_addU rfl rfl (nat_cast _) (nat_cast _) rfl (by simp only [IntKind.bits]; omega)) ?_
              refine S_val rfl rfl (Y_gtr_t rfl rfl (by omega)) ?_
              refine S_val rfl rfl (Y_pick_f rfl rfl) ?_
              refine S_nil ?_
              refine X_seq ?_
              refine T_cond_true rfl ?_
              refine T_skip ?_
              refine X_seq ?_
              refine T_block ?_
              refine T_seq ?_
              refine T_region ?_
              refine S_val rfl rfl (Y_move rfl) ?_
              refine S_val rfl rfl (Y_subU rfl rfl (nat_cast _) (nat_lit' _) rfl (by omega) (by simp only [IntKind.bits]; omega)) ?_
              refine S_val rfl rfl (Y_assign rfl) ?_
              refine S_nil ?_
              refine X_seq ?_
              refine T_seq ?_
              refine T_region ?_
              refine S_val rfl rfl (Y_move rfl) ?_
              refine S_val rfl rfl (Y_move rfl) ?_
              refine S_val rfl rfl (Y_addU rfl rfl (nat_cast _) (nat_cast _) rfl (by simp only [IntKind.bits]; omega)) ?_
              refine S_val rfl rfl (Y_assign rfl) ?_
              refine S_nil ?_
              refine X_seq ?_
              refine T_seq ?_
              refine T_region ?_
              refine S_val rfl rfl (Y_move rfl) ?_
              refine S_val rfl rfl (Y_geq_f rfl rfl (by omega)) ?_
              refine S_nil ?_
              refine X_seq ?_
              refine T_cond_false rfl ?_
              refine T_skip ?_
              refine X_blk ?_
              refine X_loop ?_
              exact ⟨(q - 1, r + n1), ⟨by dsimp only; omega, by dsimp only; omega, by have h3 := P3.out; dsimp only; omega, by dsimp only; omega⟩, by dsimp only; omega, (by repeat (first | exact Env.sub_nil _ | (apply Env.sub_cons; rfl))), [], rfl⟩
          · have hpe : q = q0s := by
              rw [← P2.out.1]
              exact hH2.end_ P3.out (by rw [P2.out.1]; omega) (by omega)
            rw [← hpe]
            refine T_seq ?_
            refine T_seq ?_
            refine T_region ?_
            refine S_val rfl rfl (Y_move rfl) ?_
            refine S_val rfl rfl (Y_geq_f rfl rfl (by omega)) ?_
            refine S_val rfl rfl (Y_move rfl) ?_
            refine S_val rfl rfl (Y_move rfl) ?_
            refine S_val rfl rfl (Y_move rfl) ?_
            refine S_val rfl rfl (Y_mulU rfl rfl (nat_cast _) (nat_cast _) rfl (by simp only [IntKind.bits]; assumption)) ?_
            refine S_val rfl rfl (Y_move rfl) ?_
            refine S_val rfl rfl (Y_mulU rfl rfl (nat_lit' _) (nat_cast _) rfl (by simp only [IntKind.bits]; omega)) ?_
            refine S_val rfl rfl (Y_move rfl) ?_
            refine S_val rfl rfl (Y_addU rfl rfl (nat_cast _) (nat_cast _) rfl (by simp only [IntKind.bits]; omega)) ?_
            refine S_val rfl rfl (Y_gtr_f rfl rfl (by omega)) ?_
            refine S_val rfl rfl (Y_pick_f rfl rfl) ?_
            refine S_nil ?_
            refine X_seq ?_
            refine T_cond_false rfl ?_
            refine T_exit ?_
            refine X_seq_exit ?_
            refine X_loop_exit ?_
            refine X_blk_hit rfl ?_
            refine X_seq ?_
            refine T_seq ?_
            refine T_region ?_
            refine S_val rfl rfl (Y_move rfl) ?_
            refine S_val rfl rfl (Y_mulU rfl rfl (nat_cast _) (nat_lit' _) rfl (by simp only [IntKind.bits]; omega)) ?_
            refine S_val rfl rfl (Y_move rfl) ?_
            refine S_val rfl rfl (Y_addU rfl rfl (nat_cast _) (nat_cast _) rfl (by simp only [IntKind.bits]; omega)) ?_
            refine S_val rfl rfl (Y_move rfl) ?_
            refine S_val rfl rfl (Y_mul64 rfl rfl (nat_cast _) (nat_lit' _)) ?_
            refine S_val rfl rfl (Y_move rfl) ?_
            refine S_val rfl rfl (Y_addU rfl rfl (nat_cast _) (nat_cast _) rfl (by simp only [IntKind.bits]; omega)) ?_
            refine S_val rfl rfl (Y_move rfl) ?_
            refine S_val rfl rfl (Y_move rfl) ?_
            refine S_val rfl rfl (Y_mul64 rfl rfl (nat_cast _) (nat_cast _)) ?_
            refine S_val rfl rfl (Y_sub64 rfl rfl (nat_cast _) (nat_cast _) (by omega)) ?_
            refine S_val rfl rfl (Y_move rfl) ?_
            refine S_val rfl rfl (Y_shrN rfl rfl (nat_cast _) (nat_cast _) (by simp only [IntKind.bits]; omega)) ?_
            refine S_val rfl rfl (Y_assign rfl) ?_
            refine S_val rfl rfl (Y_assign rfl) ?_
            refine S_nil ?_
            refine X_seq ?_
            refine T_ret ?_
            ((first | refine X_fin_ret ?_ | refine X_fin ?_); exact ⟨[_, _], [], .cons (.tmp rfl) (.cons (.tmp rfl) .nil), Emb.nil _, rfl, rfl⟩)
      · refine T_seq ?_
        refine T_seq ?_
        refine T_region ?_
        refine S_val rfl rfl (Y_move rfl) ?_
        refine S_val rfl rfl (Y_geq_t rfl rfl (by omega)) ?_
        refine S_val rfl rfl (Y_move rfl) ?_
        refine S_skip rfl rfl ?_
        refine S_skip rfl rfl ?_
        refine S_skip rfl rfl ?_
        refine S_skip rfl rfl ?_
        refine S_skip rfl rfl ?_
        refine S_skip rfl rfl ?_
        refine S_skip rfl rfl ?_
        refine S_skip rfl rfl ?_
        refine S_val rfl rfl (Y_pick_t rfl rfl) ?_
        refine S_nil ?_
        refine X_seq ?_
        refine T_cond_true rfl ?_
        refine T_skip ?_
        refine X_seq ?_
        refine T_block ?_
        refine T_seq ?_
        refine T_region ?_
        refine S_val rfl rfl (Y_move rfl) ?_
        refine S_val rfl rfl (Y_subU rfl rfl (nat_cast _) (nat_lit' _) rfl (by omega) (by simp only [IntKind.bits]; omega)) ?_
        refine S_val rfl rfl (Y_assign rfl) ?_
        refine S_nil ?_
        refine X_seq ?_
        refine T_seq ?_
        refine T_region ?_
        refine S_val rfl rfl (Y_move rfl) ?_
        refine S_val rfl rfl (Y_move rfl) ?_
        refine S_val rfl rfl (Y_addU rfl rfl (nat_cast _) (nat_cast _) rfl (by simp only [IntKind.bits]; omega)) ?_
        refine S_val rfl rfl (Y_assign rfl) ?_
        refine S_nil ?_
        refine X_seq ?_
        refine T_seq ?_
        refine T_region ?_
        refine S_val rfl rfl (Y_move rfl) ?_
        refine S_val rfl rfl (Y_geq_f rfl rfl (by omega)) ?_
        refine S_nil ?_
        refine X_seq ?_
        refine T_cond_false rfl ?_
        refine T_skip ?_
        refine X_blk ?_
        refine X_loop ?_
        exact ⟨(q - 1, r + n1), ⟨by dsimp only; omega, by dsimp only; omega, by have h3 := P3.out; dsimp only; omega, by dsimp only; omega⟩, by dsimp only; omega, (by repeat (first | exact Env.sub_nil _ | (apply Env.sub_cons; rfl))), [], rfl⟩
    · have hqn : q * n0 < 18446744073709551616 := Nat.lt_of_le_of_lt (Nat.mul_le_mul (show q ≤ 4294967295 by omega) (show n0 ≤ 4294967295 by omega)) (by omega)
      by_cases c2 : 4294967296 * r + u1 < q * n0
      · have hlt := hH1.high P3.out (.inr c2)
        rw [P1.out.1] at hlt
        have hqm : (q - 1) * n1 + n1 = q * n1 := by rw [← Nat.succ_mul]; congr 1; omega
        by_cases c3 : 4294967296 ≤ r + n1
        · have hpe : q - 1 = q1s := by
            rw [← P1.out.1]
            refine hH1.end_ (r := r + n1) (by have h3 := P3.out; omega) (by rw [P1.out.1]; omega) ?_
            have : (q - 1) * n0 ≤ 4294967296 * 4294967295 := Nat.mul_le_mul (by omega) (by omega)
            omega
          rw [← hpe] at hre1 mu2 hd2 hlt1 ⊢
          refine T_seq ?_
          refine T_seq ?_
          refine T_region ?_
          refine S_val rfl rfl (Y_move rfl) ?_
          refine S_val rfl rfl (Y_geq_f rfl rfl (by omega)) ?_
          refine S_val rfl rfl (Y_move rfl) ?_
          refine S_val rfl rfl (Y_move rfl) ?_
          refine S_val rfl rfl (Y_move rfl) ?_
          refine S_val rfl rfl (Y_mulU rfl rfl (nat_cast _) (nat_cast _) rfl (by simp only [IntKind.bits]; assumption)) ?_
          refine S_val rfl rfl (Y_move rfl) ?_
          refine S_val rfl rfl (Y_mulU rfl rfl (nat_lit' _) (nat_cast _) rfl (by simp only [IntKind.bits]; omega)) ?_
          refine S_val rfl rfl (Y_move rfl) ?_
          refine S_val rfl rfl (Y_addU rfl rfl (nat_cast _) (nat_cast _) rfl (by simp only [IntKind.bits]; omega)) ?_
          refine S_val rfl rfl (Y_gtr_t rfl rfl (by omega)) ?_
          refine S_val rfl rfl (Y_pick_f rfl rfl) ?_
          refine S_nil ?_
          refine X_seq ?_
          refine T_cond_true rfl ?_
          refine T_skip ?_
          refine X_seq ?_
          refine T_block ?_
          refine T_seq ?_
          refine T_region ?_
          refine S_val rfl rfl (Y_move rfl) ?_
          refine S_val rfl rfl (Y_subU rfl rfl (nat_cast _) (nat_lit' _) rfl (by omega) (by simp only [IntKind.bits]; omega)) ?_
          refine S_val rfl rfl (Y_assign rfl) ?_
          refine S_nil ?_
          refine X_seq ?_
          refine T_seq ?_
          refine T_region ?_
          refine S_val rfl rfl (Y_move rfl) ?_
          refine S_val rfl rfl (Y_move rfl) ?_
          refine S_val rfl rfl (Y_addU rfl rfl (nat_cast _) (nat_cast _) rfl (by simp only [IntKind.bits]; omega)) ?_
          refine S_val rfl rfl (Y_assign rfl) ?_
          refine S_nil ?_
          refine X_seq ?_
          refine T_seq ?_
          refine T_region ?_
          refine S_val rfl rfl (Y_move rfl) ?_
          refine S_val rfl rfl (Y_geq_t rfl rfl (by omega)) ?_
          refine S_nil ?_
          refine X_seq ?_
          refine T_cond_true rfl ?_
          refine T_exit ?_
          refine X_blk_miss rfl ?_
          refine X_loop_exit ?_
          refine X_blk_hit rfl ?_
          refine X_seq ?_
          refine T_seq ?_
          refine T_region ?_
          refine S_val rfl rfl (Y_move rfl) ?_
          refine S_val rfl rfl (Y_mul64 rfl rfl (nat_cast _) (nat_lit' _)) ?_
          refine S_val rfl rfl (Y_move rfl) ?_
          refine S_val rfl rfl (Y_addU rfl rfl (nat_cast _) (nat_cast _) rfl (by simp only [IntKind.bits]; omega)) ?_
          refine S_val rfl rfl (Y_move rfl) ?_
          refine S_val rfl rfl (Y_move rfl) ?_
          refine S_val rfl rfl (Y_mul64 rfl rfl (nat_cast _) (nat_cast _)) ?_
          refine S_val rfl rfl (Y_sub64 rfl rfl (nat_cast _) (nat_cast _) (by omega)) ?_
          refine S_val rfl rfl (Y_assign rfl) ?_
          refine S_nil ?_
          refine X_seq ?_
          refine T_seq ?_
          refine T_region ?_
          refine S_val rfl rfl (Y_move rfl) ?_
          refine S_val rfl rfl (Y_move rfl) ?_
          refine S_val rfl rfl (Y_quoN rfl rfl (nat_cast _) (nat_cast _) (by omega) (by first | with_reducible exact xi64 (by omega) | with_reducible exact x64 (by omega) | with_reducible exact x8 (by omega) | with_reducible exact x32 (by omega))) ?_
          refine S_val rfl rfl (Y_assign rfl) ?_
          refine S_nil ?_
          refine X_seq ?_
          refine T_seq ?_
          refine T_region ?_
          refine S_val rfl rfl (Y_move rfl) ?_
          refine S_val rfl rfl (Y_move rfl) ?_
          refine S_val rfl rfl (Y_move rfl) ?_
          refine S_val rfl rfl (Y_mulU rfl rfl (nat_cast _) (nat_cast _) rfl (by simp only [IntKind.bits]; assumption)) ?_
          refine S_val rfl rfl (Y_subU rfl rfl (nat_cast _) (nat_cast _) rfl (by assumption) (by simp only [IntKind.bits]; omega)) ?_
          refine S_val rfl rfl (Y_assign rfl) ?_
          refine S_nil ?_
          refine X_seq ?_
          refine T_seq ?_
          refine T_block ?_
          rw [hre1]
          clear P1 P3 hq1 hq2 hq4 hre1 mu2 hd2 hH1 hUl
          first | clear hlt c3 hqn c2 hqm | clear hlt c3 hqm | clear hqn c2
          try clear c1 hpe
          refine T_loop (α := Nat × Nat) (fun a => q0s ≤ a.1 ∧ a.1 ≤ 4294967297 ∧ R1 = a.1 * n1 + a.2 ∧ a.2 < 4294967296)
            (fun a => [(2, .int .u64 Y), (8, .int .u64 s), (9, .int .u64 n1), (10, .int .u64 n0), (13, .int .u64 u1), (14, .int .u64 u0), (15, .int .u64 (q - 1 : Nat)), (16, .int .u64 a.2), (17, .int .u64 R1), (18, .int .u64 a.1)])
            (fun a => []) (fun a => a.1) (R1 / n1, R1 - R1 / n1 * n1) ⟨P2.out.2.1.1, P2.out.2.1.2, P2.out.2.2.1, P2.out.2.2.2⟩ (by repeat (first | exact Env.sub_nil _ | (apply Env.sub_cons; rfl))) [] rfl ?_
          rintro ⟨q, r⟩ ⟨hq1, hq2, hq3, hq4⟩
          dsimp only at hq1 hq2 hq3 hq4 ⊢
          have P3 := Hid.mk hq3
          clear hq3
          by_cases c1 : 4294967296 ≤ q
          · have hlt := hH2.high P3.out (.inl c1)
            rw [P2.out.1] at hlt
            have hqm : (q - 1) * n1 + n1 = q * n1 := by rw [← Nat.succ_mul]; congr 1; omega
            by_cases c3 : 4294967296 ≤ r + n1
            · have hpe : q - 1 = q0s := by
                rw [← P2.out.1]
                refine hH2.end_ (r := r + n1) (by have h3 := P3.out; omega) (by rw [P2.out.1]; omega) ?_
                have : (q - 1) * n0 ≤ 4294967296 * 4294967295 := Nat.mul_le_mul (by omega) (by omega)
                omega
              rw [← hpe]
              refine T_seq ?_
              refine T_seq ?_
              refine T_region ?_
              refine S_val rfl rfl (Y_move rfl) ?_
              refine S_val rfl rfl (Y_geq_t rfl rfl (by omega)) ?_
              refine S_val rfl rfl (Y_move rfl) ?_
              refine S_skip rfl rfl ?_
              refine S_skip rfl rfl ?_
              refine S_skip rfl rfl ?_
              refine S_skip rfl rfl ?_
              refine S_skip rfl rfl ?_
              refine S_skip rfl rfl ?_
              refine S_skip rfl rfl ?_
              refine S_skip rfl rfl ?_
              refine S_val rfl rfl (Y_pick_t rfl rfl) ?_
              refine S_nil ?_
              refine X_seq ?_
              refine T_cond_true rfl ?_
              refine T_skip ?_
              refine X_seq ?_
              refine T_block ?_
              refine T_seq ?_
              refine T_region ?_
              refine S_val rfl rfl (Y_move rfl) ?_
              refine S_val rfl rfl (Y_subU rfl rfl (nat_cast _) (nat_lit' _) rfl (by omega) (by simp only [IntKind.bits]; omega)) ?_
              refine S_val rfl rfl (Y_assign rfl) ?_
              refine S_nil ?_
              refine X_seq ?_
              refine T_seq ?_
              refine T_region ?_
              refine S_val rfl rfl (Y_move rfl) ?_
              refine S_val rfl rfl (Y_move rfl) ?_
              refine S_val rfl rfl (Y_addU rfl rfl (nat_cast _) (nat_cast _) rfl (by simp only [IntKind.bits]; omega)) ?_
              refine S_val rfl rfl (Y_assign rfl) ?_
              refine S_nil ?_
              refine X_seq ?_
              refine T_seq ?_
              refine T_region ?_
              refine S_val rfl rfl (Y_move rfl) ?_
              refine S_val rfl rfl (Y_geq_t rfl rfl (by omega)) ?_
              refine S_nil ?_
              refine X_seq ?_
              refine T_cond_true rfl ?_
              refine T_exit ?_
              refine X_blk_miss rfl ?_
              refine X_loop_exit ?_
              refine X_blk_hit rfl ?_
              refine X_seq ?_
              refine T_seq ?_
              refine T_region ?_
              refine S_val rfl rfl (Y_move rfl) ?_
              refine S_val rfl rfl (Y_mulU rfl rfl (nat_cast _) (nat_lit' _) rfl (by simp only [IntKind.bits]; omega)) ?_
              refine S_val rfl rfl (Y_move rfl) ?_
              refine S_val rfl rfl (Y_addU rfl rfl (nat_cast _) (nat_cast _) rfl (by simp only [IntKind.bits]; omega)) ?_
              refine S_val rfl rfl (Y_move rfl) ?_
              refine S_val rfl rfl (Y_mul64 rfl rfl (nat_cast _) (nat_lit' _)) ?_
              refine S_val rfl rfl (Y_move rfl) ?_
              refine S_val rfl rfl (Y_addU rfl rfl (nat_cast _) (nat_cast _) rfl (by simp only [IntKind.bits]; omega)) ?_
              refine S_val rfl rfl (Y_move rfl) ?_
              refine S_val rfl rfl (Y_move rfl) ?_
              refine S_val rfl rfl (Y_mul64 rfl rfl (nat_cast _) (nat_cast _)) ?_
              refine S_val rfl rfl (Y_sub64 rfl rfl (nat_cast _) (nat_cast _) (by omega)) ?_
              refine S_val rfl rfl (Y_move rfl) ?_
              refine S_val rfl rfl (Y_shrN rfl rfl (nat_cast _) (nat_cast _) (by simp only [IntKind.bits]; omega)) ?_
              refine S_val rfl rfl (Y_assign rfl) ?_
              refine S_val rfl rfl (Y_assign rfl) ?_
              refine S_nil ?_
              refine X_seq ?_
              refine T_ret ?_
              ((first | refine X_fin_ret ?_ | refine X_fin ?_); exact ⟨[_, _], [], .cons (.tmp rfl) (.cons (.tmp rfl) .nil), Emb.nil _, rfl, rfl⟩)
            · refine T_seq ?_
              refine T_seq ?_
              refine T_region ?_
              refine S_val rfl rfl (Y_move rfl) ?_
              refine S_val rfl rfl (Y_geq_t rfl rfl (by omega)) ?_
              refine S_val rfl rfl (Y_move rfl) ?_
              refine S_skip rfl rfl ?_
              refine S_skip rfl rfl ?_
              refine S_skip rfl rfl ?_
              refine S_skip rfl rfl ?_
              refine S_skip rfl rfl ?_
              refine S_skip rfl rfl ?_
              refine S_skip rfl rfl ?_
              refine S_skip rfl rfl ?_
              refine S_val rfl rfl (Y_pick_t rfl rfl) ?_
              refine S_nil ?_
              refine X_seq ?_
              refine T_cond_true rfl ?_
              refine T_skip ?_
              refine X_seq ?_
              refine T_block ?_
              refine T_seq ?_
              refine T_region ?_
              refine S_val rfl rfl (Y_move rfl) ?_
              refine S_val rfl rfl (Y_subU rfl rfl (nat_cast _) (nat_lit' _) rfl (by omega) (by simp only [IntKind.bits]; omega)) ?_
              refine S_val rfl rfl (Y_assign rfl) ?_
              refine S_nil ?_
              refine X_seq ?_
              refine T_seq ?_
              refine T_region ?_
              refine S_val rfl rfl (Y_move rfl) ?_
              refine S_val rfl rfl (Y_move rfl) ?_
              refine S_val rfl rfl (Y_addU rfl rfl (nat_cast _) (nat_cast _) rfl (by simp only [IntKind.bits]; omega)) ?_
              refine S_val rfl rfl (Y_assign rfl) ?_
              refine S_nil ?_
              refine X_seq ?_
              refine T_seq ?_
              refine T_region ?_
              refine S_val rfl rfl (Y_move rfl) ?_
              refine S_val rfl rfl (Y_geq_f rfl rfl (by omega)) ?_
              refine S_nil ?_
              refine X_seq ?_
              refine T_cond_false rfl ?_
              refine T_skip ?_
              refine X_blk ?_
              refine X_loop ?_
              exact ⟨(q - 1, r + n1), ⟨by dsimp only; omega, by dsimp only; omega, by have h3 := P3.out; dsimp only; omega, by dsimp only; omega⟩, by dsimp only; omega, (by repeat (first | exact Env.sub_nil _ | (apply Env.sub_cons; rfl))), [], rfl⟩
          · have hqn : q * n0 < 18446744073709551616 := Nat.lt_of_le_of_lt (Nat.mul_le_mul (show q ≤ 4294967295 by omega) (show n0 ≤ 4294967295 by omega)) (by omega)
            by_cases c2 : 4294967296 * r + u0 < q * n0
            · have hlt := hH2.high P3.out (.inr c2)
              rw [P2.out.1] at hlt
              have hqm : (q - 1) * n1 + n1 = q * n1 := by rw [← Nat.succ_mul]; congr 1; omega
              by_cases c3 : 4294967296 ≤ r + n1
              · have hpe : q - 1 = q0s := by
                  rw [← P2.out.1]
                  refine hH2.end_ (r := r + n1) (by have h3 := P3.out; omega) (by rw [P2.out.1]; omega) ?_
                  have : (q - 1) * n0 ≤ 4294967296 * 4294967295 := Nat.mul_le_mul (by omega) (by omega)
                  omega
                rw [← hpe]
                refine T_seq ?_
                refine T_seq ?_
                refine T_region ?_
                refine S_val rfl rfl (Y_move rfl) ?_
                refine S_val rfl rfl (Y_geq_f rfl rfl (by omega)) ?_
                refine S_val rfl rfl (Y_move rfl) ?_
                refine S_val rfl rfl (Y_move rfl) ?_
                refine S_val rfl rfl (Y_move rfl) ?_
                refine S_val rfl rfl (Y_mulU rfl rfl (nat_cast _) (nat_cast _) rfl (by simp only [IntKind.bits]; assumption)) ?_
                refine S_val rfl rfl (Y_move rfl) ?_
                refine S_val rfl rfl (Y_mulU rfl rfl (nat_lit' _) (nat_cast _) rfl (by simp only [IntKind.bits]; omega)) ?_
                refine S_val rfl rfl (Y_move rfl) ?_
                refine S_val rfl rfl (Y_addU rfl rfl (nat_cast _) (nat_cast _) rfl (by simp only [IntKind.bits]; omega)) ?_
                refine S_val rfl rfl (Y_gtr_t rfl rfl (by omega)) ?_
                refine S_val rfl rfl (Y_pick_f rfl rfl) ?_
                refine S_nil ?_
                refine X_seq ?_
                refine T_cond_true rfl ?_
                refine T_skip ?_
                refine X_seq ?_
                refine T_block ?_
                refine T_seq ?_
                refine T_region ?_
                refine S_val rfl rfl (Y_move rfl) ?_
                refine S_val rfl rfl (Y_subU rfl rfl (nat_cast _) (nat_lit' _) rfl (by omega) (by simp only [IntKind.bits]; omega)) ?_
                refine S_val rfl rfl (Y_assign rfl) ?_
                refine S_nil ?_
                refine X_seq ?_
                refine T_seq ?_
                refine T_region ?_
                refine S_val rfl rfl (Y_move rfl) ?_
                refine S_val rfl rfl (Y_move rfl) ?_
                refine S_val rfl rfl (Y_addU rfl rfl (nat_cast _) (nat_cast _) rfl (by simp only [IntKind.bits]; omega)) ?_
                refine S_val rfl rfl (Y_assign rfl) ?_
                refine S_nil ?_
                refine X_seq ?_
                refine T_seq ?_
                refine T_region ?_
                refine S_val rfl rfl (Y_move rfl) ?_
                refine S_val rfl rfl (Y_geq_t rfl rfl (by omega)) ?_
                refine S_nil ?_
                refine X_seq ?_
                refine T_cond_true rfl ?_
                refine T_exit ?_
                refine X_blk_miss rfl ?_
                refine X_loop_exit ?_
                refine X_blk_hit rfl ?_
                refine X_seq ?_
                refine T_seq ?_
                refine T_region ?_
                refine S_val rfl rfl (Y_move rfl) ?_
                refine S_val rfl rfl (Y_mulU rfl rfl (nat_cast _) (nat_lit' _) rfl (by simp only [IntKind.bits]; omega)) ?_
                refine S_val rfl rfl (Y_move rfl) ?_
                refine S_val rfl rfl (Y_addU rfl rfl (nat_cast _) (nat_cast _) rfl (by simp only [IntKind.bits]; omega)) ?_
                refine S_val rfl rfl (Y_move rfl) ?_
                refine S_val rfl rfl (Y_mul64 rfl rfl (nat_cast _) (nat_lit' _)) ?_
                refine S_val rfl rfl (Y_move rfl) ?_
                refine S_val rfl rfl (Y_addU rfl rfl (nat_cast _) (nat_cast _) rfl (by simp only [IntKind.bits]; omega)) ?_
                refine S_val rfl rfl (Y_move rfl) ?_
                refine S_val rfl rfl (Y_move rfl) ?_
                refine S_val rfl rfl (Y_mul64 rfl rfl (nat_cast _) (nat_cast _)) ?_
                refine S_val rfl rfl (Y_sub64 rfl rfl (nat_cast _) (nat_cast _) (by omega)) ?_
                refine S_val rfl rfl (Y_move rfl) ?_
                refine S_val rfl rfl (Y_shrN rfl rfl (nat_cast _) (nat_cast _) (by simp only [IntKind.bits]; omega)) ?_
                refine S_val rfl rfl (Y_assign rfl) ?_
                refine S_val rfl rfl (Y_assign rfl) ?_
                refine S_nil ?_
                refine X_seq ?_
                refine T_ret ?_
                ((first | refine X_fin_ret ?_ | refine X_fin ?_); exact ⟨[_, _], [], .cons (.tmp rfl) (.cons (.tmp rfl) .nil), Emb.nil _, rfl, rfl⟩)
              · refine T_seq ?_
                refine T_seq ?_
                refine T_region ?_
                refine S_val rfl rfl (Y_move rfl) ?_
                refine S_val rfl rfl (Y_geq_f rfl rfl (by omega)) ?_
                refine S_val rfl rfl (Y_move rfl) ?_
                refine S_val rfl rfl (Y_move rfl) ?_
                refine S_val rfl rfl (Y_move rfl) ?_
                refine S_val rfl rfl (Y_mulU rfl rfl (nat_cast _) (nat_cast _) rfl (by simp only [IntKind.bits]; assumption)) ?_
                refine S_val rfl rfl (Y_move rfl) ?_
                refine S_val rfl rfl (Y_mulU rfl rfl (nat_lit' _) (nat_cast _) rfl (by simp only [IntKind.bits]; omega)) ?_
                refine S_val rfl rfl (Y_move rfl) ?_
                refine S_val rfl rfl (Y_addU rfl rfl (nat_cast _) (nat_cast _) rfl (by simp only [IntKind.bits]; omega)) ?_
                refine S_val rfl rfl (Y_gtr_t rfl rfl (by omega)) ?_
                refine S_val rfl rfl (Y_pick_f rfl rfl) ?_
                refine S_nil ?_
                refine X_seq ?_
                refine T_cond_true rfl ?_
                refine T_skip ?_
                refine X_seq ?_
                refine T_block ?_
                refine T_seq ?_
                refine T_region ?_
                refine S_val rfl rfl (Y_move rfl) ?_
                refine S_val rfl rfl (Y_subU rfl rfl (nat_cast _) (nat_lit' _) rfl (by omega) (by simp only [IntKind.bits]; omega)) ?_
                refine S_val rfl rfl (Y_assign rfl) ?_
                refine S_nil ?_
                refine X_seq ?_
                refine T_seq ?_
                refine T_region ?_
                refine S_val rfl rfl (Y_move rfl) ?_
                refine S_val rfl rfl (Y_move rfl) ?_
                refine S_val rfl rfl (Y_addU rfl rfl (nat_cast _) (nat_cast _) rfl (by simp only [IntKind.bits]; omega)) ?_
                refine S_val rfl rfl (Y_assign rfl) ?_
                refine S_nil ?_
                refine X_seq ?_
                refine T_seq ?_
                refine T_region ?_
                refine S_val rfl rfl (Y_move rfl) ?_
                refine S_val rfl rfl (Y_geq_f rfl rfl (by omega)) ?_
                refine S_nil ?_
                refine X_seq ?_
                refine T_cond_false rfl ?_
                refine T_skip ?_
                refine X_blk ?_
                refine X_loop ?_
                exact ⟨(q - 1, r + n1), ⟨by dsimp only; omega, by dsimp only; omega, by have h3 := P3.out; dsimp only; omega, by dsimp only; omega⟩, by dsimp only; omega, (by repeat (first | exact Env.sub_nil _ | (apply Env.sub_cons; rfl))), [], rfl⟩
            · have hpe : q = q0s := by
                rw [← P2.out.1]
                exact hH2.end_ P3.out (by rw [P2.out.1]; omega) (by omega)
              rw [← hpe]
              refine T_seq ?_
              refine T_seq ?_
              refine T_region ?_
              refine S_val rfl rfl (Y_move rfl) ?_
              refine S_val rfl rfl (Y_geq_f rfl rfl (by omega)) ?_
              refine S_val rfl rfl (Y_move rfl) ?_
              refine S_val rfl rfl (Y_move rfl) ?_
              refine S_val rfl rfl (Y_move rfl) ?_
              refine S_val rfl rfl (Y_mulU rfl rfl (nat_cast _) (nat_cast _) rfl (by simp only [IntKind.bits]; assumption)) ?_
              refine S_val rfl rfl (Y_move rfl) ?_
              refine S_val rfl rfl (Y_mulU rfl rfl (nat_lit' _) (nat_cast _) rfl (by simp only [IntKind.bits]; omega)) ?_
              refine S_val rfl rfl (Y_move rfl) ?_
              refine S_val rfl rfl (Y_addU rfl rfl (nat_cast _) (nat_cast _) rfl (by simp only [IntKind.bits]; omega)) ?_
              refine S_val rfl rfl (Y_gtr_f rfl rfl (by omega)) ?_
              refine S_val rfl rfl (Y_pick_f rfl rfl) ?_
              refine S_nil ?_
              refine X_seq ?_
              refine T_cond_false rfl ?_
              refine T_exit ?_
              refine X_seq_exit ?_
              refine X_loop_exit ?_
              refine X_blk_hit rfl ?_
              refine X_seq ?_
              refine T_seq ?_
              refine T_region ?_
              refine S_val rfl rfl (Y_move rfl) ?_
              refine S_val rfl rfl (Y_mulU rfl rfl (nat_cast _) (nat_lit' _) rfl (by simp only [IntKind.bits]; omega)) ?_
              refine S_val rfl rfl (Y_move rfl) ?_
              refine S_val rfl rfl (Y_addU rfl rfl (nat_cast _) (nat_cast _) rfl (by simp only [IntKind.bits]; omega)) ?_
              refine S_val rfl rfl (Y_move rfl) ?_
              refine S_val rfl rfl (Y_mul64 rfl rfl (nat_cast _) (nat_lit' _)) ?_
              refine S_val rfl rfl (Y_move rfl) ?_
              refine S_val rfl rfl (Y_addU rfl rfl (nat_cast _) (nat_cast _) rfl (by simp only [IntKind.bits]; omega)) ?_
              refine S_val rfl rfl (Y_move rfl) ?_
              refine S_val rfl rfl (Y_move rfl) ?_
              refine S_val rfl rfl (Y_mul64 rfl rfl (nat_cast _) (nat_cast _)) ?_
              refine S_val rfl rfl (Y_sub64 rfl rfl (nat_cast _) (nat_cast _) (by omega)) ?_
              refine S_val rfl rfl (Y_move rfl) ?_
              refine S_val rfl rfl (Y_shrN rfl rfl (nat_cast _) (nat_cast _) (by simp only [IntKind.bits]; omega)) ?_
              refine S_val rfl rfl (Y_assign rfl) ?_
              refine S_val rfl rfl (Y_assign rfl) ?_
              refine S_nil ?_
              refine X_seq ?_
              refine T_ret ?_
              ((first | refine X_fin_ret ?_ | refine X_fin ?_); exact ⟨[_, _], [], .cons (.tmp rfl) (.cons (.tmp rfl) .nil), Emb.nil _, rfl, rfl⟩)
        · refine T_seq ?_
          refine T_seq ?_
          refine T_region ?_
          refine S_val rfl rfl (Y_move rfl) ?_
          refine S_val rfl rfl (Y_geq_f rfl rfl (by omega)) ?_
          refine S_val rfl rfl (Y_move rfl) ?_
          refine S_val rfl rfl (Y_move rfl) ?_
          refine S_val rfl rfl (Y_move rfl) ?_
          refine S_val rfl rfl (Y_mulU rfl rfl (nat_cast _) (nat_cast _) rfl (by simp only [IntKind.bits]; assumption)) ?_
          refine S_val rfl rfl (Y_move rfl) ?_
          refine S_val rfl rfl (Y_mulU rfl rfl (nat_lit' _) (nat_cast _) rfl (by simp only [IntKind.bits]; omega)) ?_
          refine S_val rfl rfl (Y_move rfl) ?_
          refine S_val rfl rfl (Y_addU rfl rfl (nat_cast _) (nat_cast _) rfl (by simp only [IntKind.bits]; omega)) ?_
          refine S_val rfl rfl (Y_gtr_t rfl rfl (by omega)) ?_
          refine S_val rfl rfl (Y_pick_f rfl rfl) ?_
          refine S_nil ?_
          refine X_seq ?_
          refine T_cond_true rfl ?_
          refine T_skip ?_
          refine X_seq ?_
          refine T_block ?_
          refine T_seq ?_
          refine T_region ?_
          refine S_val rfl rfl (Y_move rfl) ?_
          refine S_val rfl rfl (Y_subU rfl rfl (nat_cast _) (nat_lit' _) rfl (by omega) (by simp only [IntKind.bits]; omega)) ?_
          refine S_val rfl rfl (Y_assign rfl) ?_
          refine S_nil ?_
          refine X_seq ?_
          refine T_seq ?_
          refine T_region ?_
          refine S_val rfl rfl (Y_move rfl) ?_
          refine S_val rfl rfl (Y_move rfl) ?_
          refine S_val rfl rfl (Y_addU rfl rfl (nat_cast _) (nat_cast _) rfl (by simp only [IntKind.bits]; omega)) ?_
          refine S_val rfl rfl (Y_assign rfl) ?_
          refine S_nil ?_
          refine X_seq ?_
          refine T_seq ?_
          refine T_region ?_
          refine S_val rfl rfl (Y_move rfl) ?_
          refine S_val rfl rfl (Y_geq_f rfl rfl (by omega)) ?_
          refine S_nil ?_
          refine X_seq ?_
          refine T_cond_false rfl ?_
          refine T_skip ?_
          refine X_blk ?_
          refine X_loop ?_
          exact ⟨(q - 1, r + n1), ⟨by dsimp only; omega, by dsimp only; omega, by have h3 := P3.out; dsimp only; omega, by dsimp only; omega⟩, by dsimp only; omega, (by repeat (first | exact Env.sub_nil _ | (apply Env.sub_cons; rfl))), [], rfl⟩
      · have hpe : q = q1s := by
          rw [← P1.out.1]
          exact hH1.end_ P3.out (by rw [P1.out.1]; omega) (by omega)
        subst hpe
        refine T_seq ?_
        refine T_seq ?_
        refine T_region ?_
        refine S_val rfl rfl (Y_move rfl) ?_
        refine S_val rfl rfl (Y_geq_f rfl rfl (by omega)) ?_
        refine S_val rfl rfl (Y_move rfl) ?_
        refine S_val rfl rfl (Y_move rfl) ?_
        refine S_val rfl rfl (Y_move rfl) ?_
        refine S_val rfl rfl (Y_mulU rfl rfl (nat_cast _) (nat_cast _) rfl (by simp only [IntKind.bits]; assumption)) ?_
        refine S_val rfl rfl (Y_move rfl) ?_
        refine S_val rfl rfl (Y_mulU rfl rfl (nat_lit' _) (nat_cast _) rfl (by simp only [IntKind.bits]; omega)) ?_
        refine S_val rfl rfl (Y_move rfl) ?_
        refine S_val rfl rfl (Y_addU rfl rfl (nat_cast _) (nat_cast _) rfl (by simp only [IntKind.bits]; omega)) ?_
        refine S_val rfl rfl (Y_gtr_f rfl rfl (by omega)) ?_
        refine S_val rfl rfl (Y_pick_f rfl rfl) ?_
        refine S_nil ?_
        refine X_seq ?_
        refine T_cond_false rfl ?_
        refine T_exit ?_
        refine X_seq_exit ?_
        refine X_loop_exit ?_
        refine X_blk_hit rfl ?_
        refine X_seq ?_
        refine T_seq ?_
        refine T_region ?_
        refine S_val rfl rfl (Y_move rfl) ?_
        refine S_val rfl rfl (Y_mul64 rfl rfl (nat_cast _) (nat_lit' _)) ?_
        refine S_val rfl rfl (Y_move rfl) ?_
        refine S_val rfl rfl (Y_addU rfl rfl (nat_cast _) (nat_cast _) rfl (by simp only [IntKind.bits]; omega)) ?_
        refine S_val rfl rfl (Y_move rfl) ?_
        refine S_val rfl rfl (Y_move rfl) ?_
        refine S_val rfl rfl (Y_mul64 rfl rfl (nat_cast _) (nat_cast _)) ?_
        refine S_val rfl rfl (Y_sub64 rfl rfl (nat_cast _) (nat_cast _) (by omega)) ?_
        refine S_val rfl rfl (Y_assign rfl) ?_
        refine S_nil ?_
        refine X_seq ?_
        refine T_seq ?_
        refine T_region ?_
        refine S_val rfl rfl (Y_move rfl) ?_
        refine S_val rfl rfl (Y_move rfl) ?_
        refine S_val rfl rfl (Y_quoN rfl rfl (nat_cast _) (nat_cast _) (by omega) (by first | with_reducible exact xi64 (by omega) | with_reducible exact x64 (by omega) | with_reducible exact x8 (by omega) | with_reducible exact x32 (by omega))) ?_
        refine S_val rfl rfl (Y_assign rfl) ?_
        refine S_nil ?_
        refine X_seq ?_
        refine T_seq ?_
        refine T_region ?_
        refine S_val rfl rfl (Y_move rfl) ?_
        refine S_val rfl rfl (Y_move rfl) ?_
        refine S_val rfl rfl (Y_move rfl) ?_
        refine S_val rfl rfl (Y_mulU rfl rfl (nat_cast _) (nat_cast _) rfl (by simp only [IntKind.bits]; assumption)) ?_
        refine S_val rfl rfl (Y_subU rfl rfl (nat_cast _) (nat_cast _) rfl (by assumption) (by simp only [IntKind.bits]; omega)) ?_
        refine S_val rfl rfl (Y_assign rfl) ?_
        refine S_nil ?_
        refine X_seq ?_
        refine T_seq ?_
        refine T_block ?_
        rw [hre1]
        clear P1 P3 hq1 hq2 hq4 hre1 mu2 hd2 hH1 hUl
        first | clear hlt c3 hqn c2 hqm | clear hlt c3 hqm | clear hqn c2
        try clear c1 hpe
        refine T_loop (α := Nat × Nat) (fun a => q0s ≤ a.1 ∧ a.1 ≤ 4294967297 ∧ R1 = a.1 * n1 + a.2 ∧ a.2 < 4294967296)
          (fun a => [(2, .int .u64 Y), (8, .int .u64 s), (9, .int .u64 n1), (10, .int .u64 n0), (13, .int .u64 u1), (14, .int .u64 u0), (15, .int .u64 (q : Nat)), (16, .int .u64 a.2), (17, .int .u64 R1), (18, .int .u64 a.1)])
          (fun a => []) (fun a => a.1) (R1 / n1, R1 - R1 / n1 * n1) ⟨P2.out.2.1.1, P2.out.2.1.2, P2.out.2.2.1, P2.out.2.2.2⟩ (by repeat (first | exact Env.sub_nil _ | (apply Env.sub_cons; rfl))) [] rfl ?_
        rintro ⟨q, r⟩ ⟨hq1, hq2, hq3, hq4⟩
        dsimp only at hq1 hq2 hq3 hq4 ⊢
        have P3 := Hid.mk hq3
        clear hq3
        by_cases c1 : 4294967296 ≤ q
        · have hlt := hH2.high P3.out (.inl c1)
          rw [P2.out.1] at hlt
          have hqm : (q - 1) * n1 + n1 = q * n1 := by rw [← Nat.succ_mul]; congr 1; omega
          by_cases c3 : 4294967296 ≤ r + n1
          · have hpe : q - 1 = q0s := by
              rw [← P2.out.1]
              refine hH2.end_ (r := r + n1) (by have h3 := P3.out; omega) (by rw [P2.out.1]; omega) ?_
              have : (q - 1) * n0 ≤ 4294967296 * 4294967295 := Nat.mul_le_mul (by omega) (by omega)
              omega
            rw [← hpe]
            refine T_seq ?_
            refine T_seq ?_
            refine T_region ?_
            refine S_val rfl rfl (Y_move rfl) ?_
            refine S_val rfl rfl (Y_geq_t rfl rfl (by omega)) ?_
            refine S_val rfl rfl (Y_move rfl) ?_
            refine S_skip rfl rfl ?_
            refine S_skip rfl rfl ?_
            refine S_skip rfl rfl ?_
            refine S_skip rfl rfl ?_
            refine S_skip rfl rfl ?_
            refine S_skip rfl rfl ?_
            refine S_skip rfl rfl ?_
            refine S_skip rfl rfl ?_
            refine S_val rfl rfl (Y_pick_t rfl rfl) ?_
            refine S_nil ?_
            refine X_seq ?_
            refine T_cond_true rfl ?_
            refine T_skip ?_
            refine X_seq ?_
            refine T_block ?_
            refine T_seq ?_
            refine T_region ?_
            refine S_val rfl rfl (Y_move rfl) ?_
            refine S_val rfl rfl (Y_subU rfl rfl (nat_cast _) (nat_lit' _) rfl (by omega) (by simp only [IntKind.bits]; omega)) ?_
            refine S_val rfl rfl (Y_assign rfl) ?_
            refine S_nil ?_
            refine X_seq ?_
            refine T_seq ?_
            refine T_region ?_
            refine S_val rfl rfl (Y_move rfl) ?_
            refine S_val rfl rfl (Y_move rfl) ?_
            refine S_val rfl rfl (Y_addU rfl rfl (nat_cast _) (nat_cast _) rfl (by simp only [IntKind.bits]; omega)) ?_
            refine S_val rfl rfl (Y_assign rfl) ?_
            refine S_nil ?_
            refine X_seq ?_
            refine T_seq ?_
            refine T_region ?_
            refine S_val rfl rfl (Y_move rfl) ?_
            refine S_val rfl rfl (Y_geq_t rfl rfl (by omega)) ?_
            refine S_nil ?_
            refine X_seq ?_
            refine T_cond_true rfl ?_
            refine T_exit ?_
            refine X_blk_miss rfl ?_
            refine X_loop_exit ?_
            refine X_blk_hit rfl ?_
            refine X_seq ?_
            refine T_seq ?_
            refine T_region ?_
            refine S_val rfl rfl (Y_move rfl) ?_
            refine S_val rfl rfl (Y_mulU rfl rfl (nat_cast _) (nat_lit' _) rfl (by simp only [IntKind.bits]; omega)) ?_
            refine S_val rfl rfl (Y_move rfl) ?_
            refine S_val rfl rfl (Y_addU rfl rfl (nat_cast _) (nat_cast _) rfl (by simp only [IntKind.bits]; omega)) ?_
            refine S_val rfl rfl (Y_move rfl) ?_
            refine S_val rfl rfl (Y_mul64 rfl rfl (nat_cast _) (nat_lit' _)) ?_
            refine S_val rfl rfl (Y_move rfl) ?_
            refine S_val rfl rfl (Y_addU rfl rfl (nat_cast _) (nat_cast _) rfl (by simp only [IntKind.bits]; omega)) ?_
            refine S_val rfl rfl (Y_move rfl) ?_
            refine S_val rfl rfl (Y_move rfl) ?_
            refine S_val rfl rfl (Y_mul64 rfl rfl (nat_cast _) (nat_cast _)) ?_
            refine S_val rfl rfl (Y_sub64 rfl rfl (nat_cast _) (nat_cast _) (by omega)) ?_
            refine S_val rfl rfl (Y_move rfl) ?_
            refine S_val rfl rfl (Y_shrN rfl rfl (nat_cast _) (nat_cast _) (by simp only [IntKind.bits]; omega)) ?_
            refine S_val rfl rfl (Y_assign rfl) ?_
            refine S_val rfl rfl (Y_assign rfl) ?_
            refine S_nil ?_
            refine X_seq ?_
            refine T_ret ?_
            ((first | refine X_fin_ret ?_ | refine X_fin ?_); exact ⟨[_, _], [], .cons (.tmp rfl) (.cons (.tmp rfl) .nil), Emb.nil _, rfl, rfl⟩)
          · refine T_seq ?_
            refine T_seq ?_
            refine T_region ?_
            refine S_val rfl rfl (Y_move rfl) ?_
            refine S_val rfl rfl (Y_geq_t rfl rfl (by omega)) ?_
            refine S_val rfl rfl (Y_move rfl) ?_
            refine S_skip rfl rfl ?_
            refine S_skip rfl rfl ?_
            refine S_skip rfl rfl ?_
            refine S_skip rfl rfl ?_
            refine S_skip rfl rfl ?_
            refine S_skip rfl rfl ?_
            refine S_skip rfl rfl ?_
            refine S_skip rfl rfl ?_
            refine S_val rfl rfl (Y_pick_t rfl rfl) ?_
            refine S_nil ?_
            refine X_seq ?_
            refine T_cond_true rfl ?_
            refine T_skip ?_
            refine X_seq ?_
            refine T_block ?_
            refine T_seq ?_
            refine T_region ?_
            refine S_val rfl rfl (Y_move rfl) ?_
            refine S_val rfl rfl (Y_subU rfl rfl (nat_cast _) (nat_lit' _) rfl (by omega) (by simp only [IntKind.bits]; omega)) ?_
            refine S_val rfl rfl (Y_assign rfl) ?_
            refine S_nil ?_
            refine X_seq ?_
            refine T_seq ?_
            refine T_region ?_
            refine S_val rfl rfl (Y_move rfl) ?_
            refine S_val rfl rfl (Y_move rfl) ?_
            refine S_val rfl rfl (Y_addU rfl rfl (nat_cast _) (nat_cast _) rfl (by simp only [IntKind.bits]; omega)) ?_
            refine S_val rfl rfl (Y_assign rfl) ?_
            refine S_nil ?_
            refine X_seq ?_
            refine T_seq ?_
            refine T_region ?_
            refine S_val rfl rfl (Y_move rfl) ?_
            refine S_val rfl rfl (Y_geq_f rfl rfl (by omega)) ?_
            refine S_nil ?_
            refine X_seq ?_
            refine T_cond_false rfl ?_
            refine T_skip ?_
            refine X_blk ?_
            refine X_loop ?_
            exact ⟨(q - 1, r + n1), ⟨by dsimp only; omega, by dsimp only; omega, by have h3 := P3.out; dsimp only; omega, by dsimp only; omega⟩, by dsimp only; omega, (by repeat (first | exact Env.sub_nil _ | (apply Env.sub_cons; rfl))), [], rfl⟩
        · have hqn : q * n0 < 18446744073709551616 := Nat.lt_of_le_of_lt (Nat.mul_le_mul (show q ≤ 4294967295 by omega) (show n0 ≤ 4294967295 by omega)) (by omega)
          by_cases c2 : 4294967296 * r + u0 < q * n0
          · have hlt := hH2.high P3.out (.inr c2)
            rw [P2.out.1] at hlt
            have hqm : (q - 1) * n1 + n1 = q * n1 := by rw [← Nat.succ_mul]; congr 1; omega
            by_cases c3 : 4294967296 ≤ r + n1
            · have hpe : q - 1 = q0s := by
                rw [← P2.out.1]
                refine hH2.end_ (r := r + n1) (by have h3 := P3.out; omega) (by rw [P2.out.1]; omega) ?_
                have : (q - 1) * n0 ≤ 4294967296 * 4294967295 := Nat.mul_le_mul (by omega) (by omega)
                omega
              rw [← hpe]
              refine T_seq ?_
              refine T_seq ?_
              refine T_region ?_
              refine S_val rfl rfl (Y_move rfl) ?_
              refine S_val rfl rfl (Y_geq_f rfl rfl (by omega)) ?_
              refine S_val rfl rfl (Y_move rfl) ?_
              refine S_val rfl rfl (Y_move rfl) ?_
              refine S_val rfl rfl (Y_move rfl) ?_
              refine S_val rfl rfl (Y_mulU rfl rfl (nat_cast _) (nat_cast _) rfl (by simp only [IntKind.bits]; assumption)) ?_
              refine S_val rfl rfl (Y_move rfl) ?_
              refine S_val rfl rfl (Y_mulU rfl rfl (nat_lit' _) (nat_cast _) rfl (by simp only [IntKind.bits]; omega)) ?_
              refine S_val rfl rfl (Y_move rfl) ?_
              refine S_val rfl rfl (Y_addU rfl rfl (nat_cast _) (nat_cast _) rfl (by simp only [IntKind.bits]; omega)) ?_
              refine S_val rfl rfl (Y_gtr_t rfl rfl (by omega)) ?_
              refine S_val rfl rfl (Y_pick_f rfl rfl) ?_
              refine S_nil ?_
              refine X_seq ?_
              refine T_cond_true rfl ?_
              refine T_skip ?_
              refine X_seq ?_
              refine T_block ?_
              refine T_seq ?_
              refine T_region ?_
              refine S_val rfl rfl (Y_move rfl) ?_
              refine S_val rfl rfl (Y_subU rfl rfl (nat_cast _) (nat_lit' _) rfl (by omega) (by simp only [IntKind.bits]; omega)) ?_
              refine S_val rfl rfl (Y_assign rfl) ?_
              refine S_nil ?_
              refine X_seq ?_
              refine T_seq ?_
              refine T_region ?_
              refine S_val rfl rfl (Y_move rfl) ?_
              refine S_val rfl rfl (Y_move rfl) ?_
              refine S_val rfl rfl (Y_addU rfl rfl (nat_cast _) (nat_cast _) rfl (by simp only [IntKind.bits]; omega)) ?_
              refine S_val rfl rfl (Y_assign rfl) ?_
              refine S_nil ?_
              refine X_seq ?_
              refine T_seq ?_
              refine T_region ?_
              refine S_val rfl rfl (Y_move rfl) ?_
              refine S_val rfl rfl (Y_geq_t rfl rfl (by omega)) ?_
              refine S_nil ?_
              refine X_seq ?_
              refine T_cond_true rfl ?_
              refine T_exit ?_
              refine X_blk_miss rfl ?_
              refine X_loop_exit ?_
              refine X_blk_hit rfl ?_
              refine X_seq ?_
              refine T_seq ?_
              refine T_region ?_
              refine S_val rfl rfl (Y_move rfl) ?_
              refine S_val rfl rfl (Y_mulU rfl rfl (nat_cast _) (nat_lit' _) rfl (by simp only [IntKind.bits]; omega)) ?_
              refine S_val rfl rfl (Y_move rfl) ?_
              refine S_val rfl rfl (Y_addU rfl rfl (nat_cast _) (nat_cast _) rfl (by simp only [IntKind.bits]; omega)) ?_
              refine S_val rfl rfl (Y_move rfl) ?_
              refine S_val rfl rfl (Y_mul64 rfl rfl (nat_cast _) (nat_lit' _)) ?_
              refine S_val rfl rfl (Y_move rfl) ?_
              refine S_val rfl rfl (Y_addU rfl rfl (nat_cast _) (nat_cast _) rfl (by simp only [IntKind.bits]; omega)) ?_
              refine S_val rfl rfl (Y_move rfl) ?_
              refine S_val rfl rfl (Y_move rfl) ?_
              refine S_val rfl rfl (Y_mul64 rfl rfl (nat_cast _) (nat_cast _)) ?_
              refine S_val rfl rfl (Y_sub64 rfl rfl (nat_cast _) (nat_cast _) (by omega)) ?_
              refine S_val rfl rfl (Y_move rfl) ?_
              refine S_val rfl rfl (Y_shrN rfl rfl (nat_cast _) (nat_cast _) (by simp only [IntKind.bits]; omega)) ?_
              refine S_val rfl rfl (Y_assign rfl) ?_
              refine S_val rfl rfl (Y_assign rfl) ?_
              refine S_nil ?_
              refine X_seq ?_
              refine T_ret ?_
              ((first | refine X_fin_ret ?_ | refine X_fin ?_); exact ⟨[_, _], [], .cons (.tmp rfl) (.cons (.tmp rfl) .nil), Emb.nil _, rfl, rfl⟩)
            · refine T_seq ?_
              refine T_seq ?_
              refine T_region ?_
              refine S_val rfl rfl (Y_move rfl) ?_
              refine S_val rfl rfl (Y_geq_f rfl rfl (by omega)) ?_
              refine S_val rfl rfl (Y_move rfl) ?_
              refine S_val rfl rfl (Y_move rfl) ?_
              refine S_val rfl rfl (Y_move rfl) ?_
              refine S_val rfl rfl (Y_mulU rfl rfl (nat_cast _) (nat_cast _) rfl (by simp only [IntKind.bits]; assumption)) ?_
              refine S_val rfl rfl (Y_move rfl) ?_
              refine S_val rfl rfl (Y_mulU rfl rfl (nat_lit' _) (nat_cast _) rfl (by simp only [IntKind.bits]; omega)) ?_
              refine S_val rfl rfl (Y_move rfl) ?_
              refine S_val rfl rfl (Y_addU rfl rfl (nat_cast _) (nat_cast _) rfl (by simp only [IntKind.bits]; omega)) ?_
              refine S_val rfl rfl (Y_gtr_t rfl rfl (by omega)) ?_
              refine S_val rfl rfl (Y_pick_f rfl rfl) ?_
              refine S_nil ?_
              refine X_seq ?_
              refine T_cond_true rfl ?_
              refine T_skip ?_
              refine X_seq ?_
              refine T_block ?_
              refine T_seq ?_
              refine T_region ?_
              refine S_val rfl rfl (Y_move rfl) ?_
              refine S_val rfl rfl (Y_subU rfl rfl (nat_cast _) (nat_lit' _) rfl (by omega) (by simp only [IntKind.bits]; omega)) ?_
              refine S_val rfl rfl (Y_assign rfl) ?_
              refine S_nil ?_
              refine X_seq ?_
              refine T_seq ?_
              refine T_region ?_
              refine S_val rfl rfl (Y_move rfl) ?_
              refine S_val rfl rfl (Y_move rfl) ?_
              refine S_val rfl rfl (Y_addU rfl rfl (nat_cast _) (nat_cast _) rfl (by simp only [IntKind.bits]; omega)) ?_
              refine S_val rfl rfl (Y_assign rfl) ?_
              refine S_nil ?_
              refine X_seq ?_
              refine T_seq ?_
              refine T_region ?_
              refine S_val rfl rfl (Y_move rfl) ?_
              refine S_val rfl rfl (Y_geq_f rfl rfl (by omega)) ?_
              refine S_nil ?_
              refine X_seq ?_
              refine T_cond_false rfl ?_
              refine T_skip ?_
              refine X_blk ?_
              refine X_loop ?_
              exact ⟨(q - 1, r + n1), ⟨by dsimp only; omega, by dsimp only; omega, by have h3 := P3.out; dsimp only; omega, by dsimp only; omega⟩, by dsimp only; omega, (by repeat (first | exact Env.sub_nil _ | (apply Env.sub_cons; rfl))), [], rfl⟩
          · have hpe : q = q0s := by
              rw [← P2.out.1]
              exact hH2.end_ P3.out (by rw [P2.out.1]; omega) (by omega)
            rw [← hpe]
            refine T_seq ?_
            refine T_seq ?_
            refine T_region ?_
            refine S_val rfl rfl (Y_move rfl) ?_
            refine S_val rfl rfl (Y_geq_f rfl rfl (by omega)) ?_
            refine S_val rfl rfl (Y_move rfl) ?_
            refine S_val rfl rfl (Y_move rfl) ?_
            refine S_val rfl rfl (Y_move rfl) ?_
            refine S_val rfl rfl (Y_mulU rfl rfl (nat_cast _) (nat_cast _) rfl (by simp only [IntKind.bits]; assumption)) ?_
            refine S_val rfl rfl (Y_move rfl) ?_
            refine S_val rfl rfl (Y_mulU rfl rfl (nat_lit' _) (nat_cast _) rfl (by simp only [IntKind.bits]; omega)) ?_
            refine S_val rfl rfl (Y_move rfl) ?_
            refine S_val rfl rfl (Y_addU rfl rfl (nat_cast _) (nat_cast _) rfl (by simp only [IntKind.bits]; omega)) ?_
            refine S_val rfl rfl (Y_gtr_f rfl rfl (by omega)) ?_
            refine S_val rfl rfl (Y_pick_f rfl rfl) ?_
            refine S_nil ?_
            refine X_seq ?_
            refine T_cond_false rfl ?_
            refine T_exit ?_
            refine X_seq_exit ?_
            refine X_loop_exit ?_
            refine X_blk_hit rfl ?_
            refine X_seq ?_
            refine T_seq ?_
            refine T_region ?_
            refine S_val rfl rfl (Y_move rfl) ?_
            refine S_val rfl rfl (Y_mulU rfl rfl (nat_cast _) (nat_lit' _) rfl (by simp only [IntKind.bits]; omega)) ?_
            refine S_val rfl rfl (Y_move rfl) ?_
            refine S_val rfl rfl (Y_addU rfl rfl (nat_cast _) (nat_cast _) rfl (by simp only [IntKind.bits]; omega)) ?_
            refine S_val rfl rfl (Y_move rfl) ?_
            refine S_val rfl rfl (Y_mul64 rfl rfl (nat_cast _) (nat_lit' _)) ?_
            refine S_val rfl rfl (Y_move rfl) ?_
            refine S_val rfl rfl (Y_addU rfl rfl (nat_cast _) (nat_cast _) rfl (by simp only [IntKind.bits]; omega)) ?_
            refine S_val rfl rfl (Y_move rfl) ?_
            refine S_val rfl rfl (Y_move rfl) ?_
            refine S_val rfl rfl (Y_mul64 rfl rfl (nat_cast _) (nat_cast _)) ?_
            refine S_val rfl rfl (Y_sub64 rfl rfl (nat_cast _) (nat_cast _) (by omega)) ?_
            refine S_val rfl rfl (Y_move rfl) ?_
            refine S_val rfl rfl (Y_shrN rfl rfl (nat_cast _) (nat_cast _) (by simp only [IntKind.bits]; omega)) ?_
            refine S_val rfl rfl (Y_assign rfl) ?_
            refine S_val rfl rfl (Y_assign rfl) ?_
            refine S_nil ?_
            refine X_seq ?_
            refine T_ret ?_
            ((first | refine X_fin_ret ?_ | refine X_fin ?_); exact ⟨[_, _], [], .cons (.tmp rfl) (.cons (.tmp rfl) .nil), Emb.nil _, rfl, rfl⟩)
end Go.Proofs.YtchoncjikdfbgaaDoor
