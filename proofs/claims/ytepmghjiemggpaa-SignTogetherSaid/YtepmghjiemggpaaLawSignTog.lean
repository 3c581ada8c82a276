import Derived.Test.YtepmghjiemggpaaSign3
/- The law SignTogether hands back true. -/
namespace Go.Proofs.Ytepmghjiemggpaa
open Go.RowKit
set_option maxRecDepth 20000
set_option maxHeartbeats 4000000

theorem tg_ff (Q B R : Nat) (h : Q * B + R < 2 ^ 256) : (Q * B % 2 ^ 256 + R) % 2 ^ 256 = Q * B + R := by omega
theorem tg_tt (Q b B R a : Nat) (hb : b + B = 2 ^ 256) (ha : a + (Q * B + R) = 2 ^ 256) (hR : R ≤ 2 ^ 256) : (Q * b % 2 ^ 256 + negN R) % 2 ^ 256 = a % 2 ^ 256 := by
  have h : Q * b + Q * B = Q * 2 ^ 256 := by rw [← Nat.mul_add, hb]
  unfold negN
  generalize Q * b = x at *
  generalize Q * B = y at *
  omega
theorem tg_ft (Q b B R a : Nat) (hb : b + B = 2 ^ 256) (ha : a = Q * B + R) (hQ : Q ≤ 2 ^ 256) : (negN Q * b % 2 ^ 256 + R) % 2 ^ 256 = a % 2 ^ 256 := by
  by_cases h0 : Q = 0
  · subst h0
    have : negN 0 = 0 := by unfold negN; omega
    rw [this]
    simp [ha]
  · by_cases h1 : Q = 2 ^ 256
    · subst h1
      have : negN (2 ^ 256) = 0 := by unfold negN; omega
      rw [this, ha]
      omega
    have hq : negN Q + Q = 2 ^ 256 := by unfold negN; omega
    have h : Q * b + Q * B = Q * 2 ^ 256 := by rw [← Nat.mul_add, hb]
    have h2 : negN Q * b + Q * b = 2 ^ 256 * b := by rw [← Nat.add_mul, hq]
    generalize negN Q * b = z at *
    generalize Q * b = x at *
    generalize Q * B = y at *
    omega
theorem tg_tf (Q B R a : Nat) (ha : a + (Q * B + R) = 2 ^ 256) (hQ : Q < 2 ^ 256) (hR : R ≤ 2 ^ 256) : (negN Q * B % 2 ^ 256 + negN R) % 2 ^ 256 = a % 2 ^ 256 := by
  by_cases h0 : Q = 0
  · subst h0
    have h1 : negN 0 = 0 := by unfold negN; omega
    rw [h1, Nat.zero_mul]
    rw [Nat.zero_mul] at ha
    unfold negN
    omega
  · have hq : negN Q + Q = 2 ^ 256 := by unfold negN; omega
    have h2 : negN Q * B + Q * B = 2 ^ 256 * B := by rw [← Nat.add_mul, hq]
    generalize negN Q * B = z at *
    generalize Q * B = y at *
    unfold negN
    omega
theorem absN_negN {R : Nat} (h : R < 2 ^ 255) : absN (negN R) = R := by
  by_cases h0 : R = 0
  · subst h0; decide +kernel
  · have e : negN R = 2 ^ 256 - R := by unfold negN; omega
    have h1 : sgn (2 ^ 256 - R) = true := decide_eq_true (by omega)
    unfold absN
    rw [e, h1, if_pos rfl]
    unfold negN
    omega
theorem absN_small {R : Nat} (h : R < 2 ^ 255) : absN R = R := by
  have h1 : sgn R = false := decide_eq_false (by omega)
  unfold absN
  rw [h1]
  rfl
theorem sgn_negN {R : Nat} (h : R < 2 ^ 255) (h0 : R ≠ 0) : sgn (negN R) = true := decide_eq_true (by unfold negN; omega)
theorem negN_0 {R : Nat} (h : R = 0) : negN R = 0 := by subst h; decide +kernel
theorem together3 (a b : Nat) (ha : a < 2 ^ 256) (hb : b < 2 ^ 256) (h0 : b ≠ 0) :
    (sdq (sgn a) (sgn b) (absN a / absN b) * b % 2 ^ 256 + sdr (sgn a) (remN (absN a) (absN b))) % 2 ^ 256 = a ∧ absN (sdr (sgn a) (remN (absN a) (absN b))) < absN b ∧ (sdr (sgn a) (remN (absN a) (absN b)) = 0 ∨ sgn (sdr (sgn a) (remN (absN a) (absN b))) = sgn a) ∧ sdr (sgn a) (remN (absN a) (absN b)) < 2 ^ 256 := by
  have hB : (2 ^ 255 ≤ b ∧ sgn b = true ∧ b + absN b = 2 ^ 256) ∨ (b < 2 ^ 255 ∧ sgn b = false ∧ absN b = b) := by
    by_cases h : 2 ^ 255 ≤ b
    · have e : sgn b = true := decide_eq_true h
      refine .inl ⟨h, e, ?_⟩
      unfold absN
      rw [e, if_pos rfl]
      unfold negN
      omega
    · exact .inr ⟨by omega, decide_eq_false h, absN_small (by omega)⟩
  have hA : (2 ^ 255 ≤ a ∧ sgn a = true ∧ a + absN a = 2 ^ 256) ∨ (a < 2 ^ 255 ∧ sgn a = false ∧ absN a = a) := by
    by_cases h : 2 ^ 255 ≤ a
    · have e : sgn a = true := decide_eq_true h
      refine .inl ⟨h, e, ?_⟩
      unfold absN
      rw [e, if_pos rfl]
      unfold negN
      omega
    · exact .inr ⟨by omega, decide_eq_false h, absN_small (by omega)⟩
  have hB0 : 0 < absN b := by omega
  have hR := Nat.mod_lt (absN a) hB0
  have hdm : absN a / absN b * absN b + absN a % absN b = absN a := by rw [Nat.mul_comm]; exact Nat.div_add_mod _ _
  have hQ : absN a / absN b ≤ absN a := Nat.div_le_self _ _
  rw [show remN (absN a) (absN b) = absN a % absN b by unfold remN; rw [if_neg (by omega)]]
  generalize absN a / absN b = Q at *
  generalize absN a % absN b = R at *
  generalize absN a = A at *
  generalize absN b = B at *
  have ht := negN_lt R
  rcases hA with ⟨a1, a2, a3⟩ | ⟨a1, a2, a3⟩
  · rw [a2]
    have hp : absN (sdr true R) < B ∧ (sdr true R = 0 ∨ sgn (sdr true R) = true) ∧ sdr true R < 2 ^ 256 := by
      refine ⟨?_, ?_, ht⟩
      · show absN (negN R) < B
        rw [absN_negN (by omega)]
        exact hR
      · by_cases hr : R = 0
        · exact .inl (negN_0 hr)
        · exact .inr (sgn_negN (by omega) hr)
    refine ⟨?_, hp⟩
    rcases hB with ⟨b1, b2, b3⟩ | ⟨b1, b2, b3⟩
    · rw [b2]
      have := tg_tt Q b B R a b3 (by omega) (by omega)
      rw [Nat.mod_eq_of_lt ha] at this
      exact this
    · rw [b2]
      have := tg_tf Q B R a (by omega) (by omega) (by omega)
      rw [Nat.mod_eq_of_lt ha, b3] at this
      exact this
  · rw [a2]
    have hp : absN (sdr false R) < B ∧ (sdr false R = 0 ∨ sgn (sdr false R) = false) ∧ sdr false R < 2 ^ 256 := by
      refine ⟨?_, .inr (decide_eq_false (show ¬ 2 ^ 255 ≤ R by omega)), show R < 2 ^ 256 by omega⟩
      show absN R < B
      rw [absN_small (by omega)]
      exact hR
    refine ⟨?_, hp⟩
    rcases hB with ⟨b1, b2, b3⟩ | ⟨b1, b2, b3⟩
    · rw [b2]
      have := tg_ft Q b B R a b3 (by omega) (by omega)
      rw [Nat.mod_eq_of_lt ha] at this
      exact this
    · rw [b2]
      have := tg_ff Q B R (by omega)
      rw [b3] at this hdm
      rw [hdm] at this
      rw [← a3]
      exact this
theorem sdq_0 (s t : Bool) {q : Nat} (h : q = 0) : sdq s t q = 0 := by subst h; cases s <;> cases t <;> decide +kernel
theorem sdr_0 (s : Bool) {q : Nat} (h : q = 0) : sdr s q = 0 := by subst h; cases s <;> decide +kernel
theorem signTogether_law (a : Nat) (ha : a < 2 ^ 256) (b : Nat) (hb : b < 2 ^ 256) (w : World) : Fn Try.prog 9 #[W a, W b] w fun v N => v = .bool true ∧ N = [] := by
  have d1 := sdiv_any a b ha hb
  by_cases h0 : b = 0
  · have ey : dl 18446744073709551616 4 b = fillI (List.replicate 4 0) [] := by rw [h0]; exact e_zero
    have hb0 : absN b = 0 := by rw [h0]; decide +kernel
    have e1 : sdq (sgn a) (sgn b) (absN a / absN b) = b := (sdq_0 _ _ (by rw [hb0, Nat.div_zero])).trans h0.symm
    have e2 : sdr (sgn a) (remN (absN a) (absN b)) = b := (sdr_0 _ (by rw [hb0]; rfl)).trans h0.symm
    rw [e1, e2] at d1
    clear e1 e2 hb0 h0
    refine Fn_of (args := [W a, W b]) Try.func9 rfl Try.ntmps9 Try.results9 (by simp) ?_
    refine T_seq ?_
    refine T_region ?_
    refine S_boxA rfl rfl rfl fun _ => ?_
    refine S_boxA rfl rfl rfl fun _ => ?_
    refine S_val rfl rfl (Y_assign rfl) ?_
    refine S_nil ?_
    refine X_seq ?_
    refine T_seq ?_
    refine T_region ?_
    refine S_val rfl rfl (Y_loadAI 0 (und rfl) rfl rfl rfl (siz rfl) (dl_length _ _ _)) ?_
    refine S_val rfl rfl (Y_loadAI 1 (und rfl) rfl rfl rfl (siz rfl) (dl_length _ _ _)) ?_
    refine S_callV rfl rfl (bod rfl) (fun w hs => d1 _) rfl rfl ?_
    refine S_val rfl rfl (Y_move rfl) ?_
    refine S_val rfl rfl (Y_extract rfl rfl) ?_
    refine S_val rfl rfl (Y_extract rfl rfl) ?_
    refine S_allocA (zer rfl) rfl rfl fun _ => ?_
    refine S_allocA (zer rfl) rfl rfl fun _ => ?_
    refine S_storeAI 2 (siz rfl) rfl rfl rfl rfl (dl_length _ _ _) rfl ?_
    refine S_storeAI 3 (siz rfl) rfl rfl rfl rfl (dl_length _ _ _) rfl ?_
    refine S_nil ?_
    refine X_seq ?_
    refine T_seq ?_
    refine T_seq ?_
    refine T_region ?_
    refine S_val rfl rfl (Y_loadAI 1 (und rfl) rfl rfl rfl (siz rfl) (dl_length _ _ _)) ?_
    refine S_val rfl rfl (Y_build (und rfl) (siz rfl) (zer rfl) rfl rfl) ?_
    refine S_val rfl rfl (Y_eqlA_t (eqg rfl) (und rfl) (und rfl) (siz rfl) rfl rfl (dl_length _ _ _) (by assumption)) ?_
    refine S_nil ?_
    refine X_seq ?_
    refine T_cond_true rfl ?_
    refine T_seq ?_
    refine T_region ?_
    refine S_callV rfl rfl (bod rfl) (fun w hs => sfixed_any _) rfl rfl ?_
    refine S_val rfl rfl (Y_move rfl) ?_
    refine S_val rfl rfl (Y_loadAI 2 (und rfl) rfl rfl rfl (siz rfl) (dl_length _ _ _)) ?_
    refine S_val rfl rfl (Y_loadAI 1 (und rfl) rfl rfl rfl (siz rfl) (dl_length _ _ _)) ?_
    refine S_val rfl rfl (Y_eqlA_t (eqg rfl) (und rfl) (und rfl) (siz rfl) rfl rfl (dl_length _ _ _) rfl) ?_
    refine S_val rfl rfl (Y_pick_t rfl rfl) ?_
    refine S_val rfl rfl (Y_move rfl) ?_
    refine S_val rfl rfl (Y_loadAI 3 (und rfl) rfl rfl rfl (siz rfl) (dl_length _ _ _)) ?_
    refine S_val rfl rfl (Y_loadAI 1 (und rfl) rfl rfl rfl (siz rfl) (dl_length _ _ _)) ?_
    refine S_val rfl rfl (Y_eqlA_t (eqg rfl) (und rfl) (und rfl) (siz rfl) rfl rfl (dl_length _ _ _) rfl) ?_
    refine S_val rfl rfl (Y_pick_t rfl rfl) ?_
    refine S_val rfl rfl (Y_assign rfl) ?_
    refine S_nil ?_
    refine X_seq ?_
    refine T_ret ?_
    refine X_seq_ret ?_
    ((first | refine X_fin_ret ?_ | refine X_fin ?_); exact ⟨[_], [], .cons (.tmp rfl) .nil, Emb.nil _, rfl, rfl⟩)
  · have ey : ¬ dl 18446744073709551616 4 b = fillI (List.replicate 4 0) [] := by rw [← e_zero]; exact W_ne hb (by omega) h0
    obtain ⟨p1, p2, p3, p4⟩ := together3 a b ha hb h0
    generalize sdq (sgn a) (sgn b) (absN a / absN b) = q at *
    generalize sdr (sgn a) (remN (absN a) (absN b)) = r at *
    have ad := radd_any (q * b % 2 ^ 256) r
    rw [p1] at ad
    have z1 := rsize_any r p4
    have z2 := rsize_any b hb
    have b1 := rbelow_any r p4
    have b2 := rbelow_any a ha
    have cm := rcompare_any (absN r) (absN b) (absN_lt p4) (absN_lt hb)
    rw [show cmpI (absN r) (absN b) = -1 by unfold cmpI; rw [if_pos p2]] at cm
    generalize absN r = A at *
    generalize absN b = B at *
    by_cases hr : r = 0
    · have er : dl 18446744073709551616 4 r = fillI (List.replicate 4 0) [] := by rw [hr]; exact e_zero
      clear p1 p2 p3 p4 hr
      refine Fn_of (args := [W a, W b]) Try.func9 rfl Try.ntmps9 Try.results9 (by simp) ?_
      refine T_seq ?_
      refine T_region ?_
      refine S_boxA rfl rfl rfl fun _ => ?_
      refine S_boxA rfl rfl rfl fun _ => ?_
      refine S_val rfl rfl (Y_assign rfl) ?_
      refine S_nil ?_
      refine X_seq ?_
      refine T_seq ?_
      refine T_region ?_
      refine S_val rfl rfl (Y_loadAI 0 (und rfl) rfl rfl rfl (siz rfl) (dl_length _ _ _)) ?_
      refine S_val rfl rfl (Y_loadAI 1 (und rfl) rfl rfl rfl (siz rfl) (dl_length _ _ _)) ?_
      refine S_callV rfl rfl (bod rfl) (fun w hs => d1 _) rfl rfl ?_
      refine S_val rfl rfl (Y_move rfl) ?_
      refine S_val rfl rfl (Y_extract rfl rfl) ?_
      refine S_val rfl rfl (Y_extract rfl rfl) ?_
      refine S_allocA (zer rfl) rfl rfl fun _ => ?_
      refine S_allocA (zer rfl) rfl rfl fun _ => ?_
      refine S_storeAI 2 (siz rfl) rfl rfl rfl rfl (dl_length _ _ _) rfl ?_
      refine S_storeAI 3 (siz rfl) rfl rfl rfl rfl (dl_length _ _ _) rfl ?_
      refine S_nil ?_
      refine X_seq ?_
      refine T_seq ?_
      refine T_seq ?_
      refine T_region ?_
      refine S_val rfl rfl (Y_loadAI 1 (und rfl) rfl rfl rfl (siz rfl) (dl_length _ _ _)) ?_
      refine S_val rfl rfl (Y_build (und rfl) (siz rfl) (zer rfl) rfl rfl) ?_
      refine S_val rfl rfl (Y_eqlA_f (eqg rfl) (und rfl) (und rfl) (siz rfl) rfl rfl (dl_length _ _ _) rfl (by assumption)) ?_
      refine S_nil ?_
      refine X_seq ?_
      refine T_cond_false rfl ?_
      refine T_skip ?_
      refine X_seq ?_
      refine T_seq ?_
      refine T_drawP (.succ (.succ (.succ (.succ (.succ (.succ (.succ (.succ (.succ .zero))))))))) (by kernel_rfl) (by kernel_rfl) (by kernel_rfl) (by kernel_rfl) ?_
      refine D0_valM rfl rfl rfl (Y_loadAI 2 (und rfl) rfl rfl rfl (siz rfl) (dl_length _ _ _)) ?_
      refine D0_callV rfl rfl (bod rfl) (fun w hs => rof_any q _) rfl rfl ?_
      refine D0_valM rfl rfl rfl (Y_loadAI 1 (und rfl) rfl rfl rfl (siz rfl) (dl_length _ _ _)) ?_
      refine D0_callV rfl rfl (bod rfl) (fun w hs => rof_any b _) rfl rfl ?_
      skip
      refine D0_callV rfl rfl (bod rfl) (fun w hs => rmul_any q b _) rfl rfl ?_
      refine D0_valM rfl rfl rfl (Y_loadAI 3 (und rfl) rfl rfl rfl (siz rfl) (dl_length _ _ _)) ?_
      refine D0_callV rfl rfl (bod rfl) (fun w hs => rof_any r _) rfl rfl ?_
      skip
      refine D0_callV rfl rfl (bod rfl) (fun w hs => ad _) rfl rfl ?_
      refine D0_new (D1_allocA (zer rfl) rfl fun _ => ?_)
      refine D1_nilS fun _ => ?_
      refine S_storeAI 4 (siz rfl) rfl rfl rfl rfl (dl_length _ _ _) rfl ?_
      refine S_nil ?_
      refine X_seq ?_
      refine T_seq ?_
      refine T_draw (by kernel_rfl) (by kernel_rfl) rfl ?_
      refine D0_valM rfl rfl rfl (Y_loadAI 3 (und rfl) rfl rfl rfl (siz rfl) (dl_length _ _ _)) ?_
      refine D0_callV rfl rfl (bod rfl) (fun w hs => z1 _) rfl rfl ?_
      skip
      refine D0_callV rfl rfl (bod rfl) (fun w hs => rof_any A _) rfl rfl ?_
      refine D0_valM rfl rfl rfl (Y_loadAI 1 (und rfl) rfl rfl rfl (siz rfl) (dl_length _ _ _)) ?_
      refine D0_callV rfl rfl (bod rfl) (fun w hs => z2 _) rfl rfl ?_
      skip
      refine D0_callV rfl rfl (bod rfl) (fun w hs => rof_any B _) rfl rfl ?_
      skip
      refine D0_callV rfl rfl (bod rfl) (fun w hs => cm _) rfl rfl ?_
      refine D0_val rfl rfl rfl (Y_lss_t rfl rfl (by decide)) ?_
      refine D0_val rfl rfl rfl (Y_assign rfl) ?_
      refine D0_nil ?_
      refine X_seq ?_
      refine T_seq ?_
      refine T_draw (by kernel_rfl) (by kernel_rfl) rfl ?_
      refine D0_callV rfl rfl (bod rfl) (fun w hs => sfixed_any _) rfl rfl ?_
      refine D0_val rfl rfl rfl (Y_move rfl) ?_
      refine D0_valM rfl rfl rfl (Y_loadAI 4 (und rfl) rfl rfl rfl (siz rfl) (dl_length _ _ _)) ?_
      refine D0_callV rfl rfl (bod rfl) (fun w hs => rword_any a _) rfl rfl ?_
      refine D0_valM rfl rfl rfl (Y_loadAI 0 (und rfl) rfl rfl rfl (siz rfl) (dl_length _ _ _)) ?_
      refine D0_val rfl rfl rfl (Y_eqlA_t (eqg rfl) (und rfl) (und rfl) (siz rfl) rfl rfl (dl_length _ _ _) rfl) ?_
      refine D0_val rfl rfl rfl (Y_pick_t rfl rfl) ?_
      refine D0_val rfl rfl rfl (Y_move rfl) ?_
      refine D0_val rfl rfl rfl (Y_move rfl) ?_
      refine D0_val rfl rfl rfl (Y_pick_t rfl rfl) ?_
      refine D0_val rfl rfl rfl (Y_move rfl) ?_
      refine D0_valM rfl rfl rfl (Y_loadAI 3 (und rfl) rfl rfl rfl (siz rfl) (dl_length _ _ _)) ?_
      refine D0_val rfl rfl rfl (Y_build (und rfl) (siz rfl) (zer rfl) rfl rfl) ?_
      refine D0_val rfl rfl rfl (Y_eqlA_t (eqg rfl) (und rfl) (und rfl) (siz rfl) rfl rfl (dl_length _ _ _) (by assumption)) ?_
      refine D0_val rfl rfl rfl (Y_move rfl) ?_
      refine D0_skip rfl rfl ?_
      refine D0_skip rfl rfl ?_
      refine D0_skip rfl rfl ?_
      refine D0_skip rfl rfl ?_
      refine D0_skip rfl rfl ?_
      refine D0_val rfl rfl rfl (Y_pick_t rfl rfl) ?_
      refine D0_val rfl rfl rfl (Y_pick_t rfl rfl) ?_
      refine D0_val rfl rfl rfl (Y_assign rfl) ?_
      refine D0_nil ?_
      refine X_seq ?_
      refine T_ret ?_
      ((first | refine X_fin_ret ?_ | refine X_fin ?_); exact ⟨[_], [], .cons (.tmp rfl) .nil, Emb.nil _, rfl, rfl⟩)
    · have er : ¬ dl 18446744073709551616 4 r = fillI (List.replicate 4 0) [] := by rw [← e_zero]; exact W_ne p4 (by omega) hr
      rw [p3.resolve_left hr] at b1
      clear p1 p2 p3 p4 hr
      generalize sgn a = s at *
      refine Fn_of (args := [W a, W b]) Try.func9 rfl Try.ntmps9 Try.results9 (by simp) ?_
      refine T_seq ?_
      refine T_region ?_
      refine S_boxA rfl rfl rfl fun _ => ?_
      refine S_boxA rfl rfl rfl fun _ => ?_
      refine S_val rfl rfl (Y_assign rfl) ?_
      refine S_nil ?_
      refine X_seq ?_
      refine T_seq ?_
      refine T_region ?_
      refine S_val rfl rfl (Y_loadAI 0 (und rfl) rfl rfl rfl (siz rfl) (dl_length _ _ _)) ?_
      refine S_val rfl rfl (Y_loadAI 1 (und rfl) rfl rfl rfl (siz rfl) (dl_length _ _ _)) ?_
      refine S_callV rfl rfl (bod rfl) (fun w hs => d1 _) rfl rfl ?_
      refine S_val rfl rfl (Y_move rfl) ?_
      refine S_val rfl rfl (Y_extract rfl rfl) ?_
      refine S_val rfl rfl (Y_extract rfl rfl) ?_
      refine S_allocA (zer rfl) rfl rfl fun _ => ?_
      refine S_allocA (zer rfl) rfl rfl fun _ => ?_
      refine S_storeAI 2 (siz rfl) rfl rfl rfl rfl (dl_length _ _ _) rfl ?_
      refine S_storeAI 3 (siz rfl) rfl rfl rfl rfl (dl_length _ _ _) rfl ?_
      refine S_nil ?_
      refine X_seq ?_
      refine T_seq ?_
      refine T_seq ?_
      refine T_region ?_
      refine S_val rfl rfl (Y_loadAI 1 (und rfl) rfl rfl rfl (siz rfl) (dl_length _ _ _)) ?_
      refine S_val rfl rfl (Y_build (und rfl) (siz rfl) (zer rfl) rfl rfl) ?_
      refine S_val rfl rfl (Y_eqlA_f (eqg rfl) (und rfl) (und rfl) (siz rfl) rfl rfl (dl_length _ _ _) rfl (by assumption)) ?_
      refine S_nil ?_
      refine X_seq ?_
      refine T_cond_false rfl ?_
      refine T_skip ?_
      refine X_seq ?_
      refine T_seq ?_
      refine T_drawP (.succ (.succ (.succ (.succ (.succ (.succ (.succ (.succ (.succ .zero))))))))) (by kernel_rfl) (by kernel_rfl) (by kernel_rfl) (by kernel_rfl) ?_
      refine D0_valM rfl rfl rfl (Y_loadAI 2 (und rfl) rfl rfl rfl (siz rfl) (dl_length _ _ _)) ?_
      refine D0_callV rfl rfl (bod rfl) (fun w hs => rof_any q _) rfl rfl ?_
      refine D0_valM rfl rfl rfl (Y_loadAI 1 (und rfl) rfl rfl rfl (siz rfl) (dl_length _ _ _)) ?_
      refine D0_callV rfl rfl (bod rfl) (fun w hs => rof_any b _) rfl rfl ?_
      skip
      refine D0_callV rfl rfl (bod rfl) (fun w hs => rmul_any q b _) rfl rfl ?_
      refine D0_valM rfl rfl rfl (Y_loadAI 3 (und rfl) rfl rfl rfl (siz rfl) (dl_length _ _ _)) ?_
      refine D0_callV rfl rfl (bod rfl) (fun w hs => rof_any r _) rfl rfl ?_
      skip
      refine D0_callV rfl rfl (bod rfl) (fun w hs => ad _) rfl rfl ?_
      refine D0_new (D1_allocA (zer rfl) rfl fun _ => ?_)
      refine D1_nilS fun _ => ?_
      refine S_storeAI 4 (siz rfl) rfl rfl rfl rfl (dl_length _ _ _) rfl ?_
      refine S_nil ?_
      refine X_seq ?_
      refine T_seq ?_
      refine T_draw (by kernel_rfl) (by kernel_rfl) rfl ?_
      refine D0_valM rfl rfl rfl (Y_loadAI 3 (und rfl) rfl rfl rfl (siz rfl) (dl_length _ _ _)) ?_
      refine D0_callV rfl rfl (bod rfl) (fun w hs => z1 _) rfl rfl ?_
      skip
      refine D0_callV rfl rfl (bod rfl) (fun w hs => rof_any A _) rfl rfl ?_
      refine D0_valM rfl rfl rfl (Y_loadAI 1 (und rfl) rfl rfl rfl (siz rfl) (dl_length _ _ _)) ?_
      refine D0_callV rfl rfl (bod rfl) (fun w hs => z2 _) rfl rfl ?_
      skip
      refine D0_callV rfl rfl (bod rfl) (fun w hs => rof_any B _) rfl rfl ?_
      skip
      refine D0_callV rfl rfl (bod rfl) (fun w hs => cm _) rfl rfl ?_
      refine D0_val rfl rfl rfl (Y_lss_t rfl rfl (by decide)) ?_
      refine D0_val rfl rfl rfl (Y_assign rfl) ?_
      refine D0_nil ?_
      refine X_seq ?_
      refine T_seq ?_
      refine T_draw (by kernel_rfl) (by kernel_rfl) rfl ?_
      refine D0_callV rfl rfl (bod rfl) (fun w hs => sfixed_any _) rfl rfl ?_
      refine D0_val rfl rfl rfl (Y_move rfl) ?_
      refine D0_valM rfl rfl rfl (Y_loadAI 4 (und rfl) rfl rfl rfl (siz rfl) (dl_length _ _ _)) ?_
      refine D0_callV rfl rfl (bod rfl) (fun w hs => rword_any a _) rfl rfl ?_
      refine D0_valM rfl rfl rfl (Y_loadAI 0 (und rfl) rfl rfl rfl (siz rfl) (dl_length _ _ _)) ?_
      refine D0_val rfl rfl rfl (Y_eqlA_t (eqg rfl) (und rfl) (und rfl) (siz rfl) rfl rfl (dl_length _ _ _) rfl) ?_
      refine D0_val rfl rfl rfl (Y_pick_t rfl rfl) ?_
      refine D0_val rfl rfl rfl (Y_move rfl) ?_
      refine D0_val rfl rfl rfl (Y_move rfl) ?_
      refine D0_val rfl rfl rfl (Y_pick_t rfl rfl) ?_
      refine D0_val rfl rfl rfl (Y_move rfl) ?_
      refine D0_valM rfl rfl rfl (Y_loadAI 3 (und rfl) rfl rfl rfl (siz rfl) (dl_length _ _ _)) ?_
      refine D0_val rfl rfl rfl (Y_build (und rfl) (siz rfl) (zer rfl) rfl rfl) ?_
      refine D0_val rfl rfl rfl (Y_eqlA_f (eqg rfl) (und rfl) (und rfl) (siz rfl) rfl rfl (dl_length _ _ _) rfl (by assumption)) ?_
      refine D0_val rfl rfl rfl (Y_move rfl) ?_
      refine D0_valM rfl rfl rfl (Y_loadAI 3 (und rfl) rfl rfl rfl (siz rfl) (dl_length _ _ _)) ?_
      refine D0_callV rfl rfl (bod rfl) (fun w hs => b1 _) rfl rfl ?_
      refine D0_valM rfl rfl rfl (Y_loadAI 0 (und rfl) rfl rfl rfl (siz rfl) (dl_length _ _ _)) ?_
      refine D0_callV rfl rfl (bod rfl) (fun w hs => b2 _) rfl rfl ?_
      refine D0_val rfl rfl rfl (Y_eqlB_t (und rfl) rfl rfl) ?_
      refine D0_val rfl rfl rfl (Y_pick_f rfl rfl) ?_
      refine D0_val rfl rfl rfl (Y_pick_t rfl rfl) ?_
      refine D0_val rfl rfl rfl (Y_assign rfl) ?_
      refine D0_nil ?_
      refine X_seq ?_
      refine T_ret ?_
      ((first | refine X_fin_ret ?_ | refine X_fin ?_); exact ⟨[_], [], .cons (.tmp rfl) .nil, Emb.nil _, rfl, rfl⟩)
end Go.Proofs.Ytepmghjiemggpaa
