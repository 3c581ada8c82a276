import Derived.Test.YtepmghjiemggpaaRN3
import Derived.Test.YtepmghjiemggpaaFee1
/- The reference's base fee. -/
namespace Go.Proofs.Ytepmghjiemggpaa
open Go.RowKit
set_option maxRecDepth 20000
set_option maxHeartbeats 4000000

theorem top_eq : fillI (List.replicate 4 0) [(0, 18446744073709551615), (1, 18446744073709551615), (2, 18446744073709551615), (3, 18446744073709551615)] = dl 18446744073709551616 4 (2 ^ 256 - 1) := by decide +kernel
theorem rtop_any (w : World) : Fn Try.prog 85 #[] w fun v N => v = W (2 ^ 256 - 1) ∧ N = [] := by
  refine Fn_of (args := []) Try.func85 rfl Try.ntmps85 Try.results85 (by simp) ?_
  refine T_seq ?_
  refine T_region ?_
  refine S_allocA (zer rfl) rfl rfl fun _ => ?_
  refine S_nil ?_
  refine X_seq ?_
  refine T_seq ?_
  refine T_region ?_
  refine S_val rfl rfl (Y_build (und rfl) (siz rfl) (zer rfl) rfl rfl) ?_
  refine S_storeAI 0 (siz rfl) rfl rfl rfl rfl rfl rfl ?_
  refine S_nil ?_
  refine X_seq ?_
  refine T_ret ?_
  ((first | refine X_fin_ret ?_ | refine X_fin ?_); exact ⟨[_], [], .cons (.agg 0 rfl (und rfl) rfl rfl (siz rfl)) .nil, Emb.nil _, by unfold W; rw [← top_eq]; rfl, rfl⟩)
theorem fill_small {g : Nat} (hg : g < 18446744073709551616) : fillI (List.replicate 4 0) [(0, (g : Int))] = dl 18446744073709551616 4 g := by
  show [(g : Int), 0, 0, 0] = [((g / 18446744073709551616 ^ 0 % 18446744073709551616 : Nat) : Int), ((g / 18446744073709551616 ^ 1 % 18446744073709551616 : Nat) : Int), ((g / 18446744073709551616 ^ 2 % 18446744073709551616 : Nat) : Int), ((g / 18446744073709551616 ^ 3 % 18446744073709551616 : Nat) : Int)]
  have h1 : ∀ i, 1 ≤ i → g / 18446744073709551616 ^ i % 18446744073709551616 = 0 := fun i hi => dig_high' (n := 1) (by omega) (by rwa [Nat.pow_one]) hi
  rw [h1 1 (by omega), h1 2 (by omega), h1 3 (by omega), Nat.pow_zero, Nat.div_one, Nat.mod_eq_of_lt hg]
  rfl
theorem rmost_any (x n : Nat) (hn : 32 < n) (hn2 : n ≤ 100000) (hx : x < 256 ^ n) (v : Value) (w : World) (hr : Rd w v .i64 (dl 256 n x)) : Fn Try.prog 67 #[v] w fun u N => u = W (min x (2 ^ 256 - 1)) ∧ N = [] := by
  have hxh : x / 256 ^ 32 < 256 ^ (n - 32) := Nat.div_lt_of_lt_mul (by rw [← Nat.pow_add, show 32 + (n - 32) = n by omega]; exact hx)
  have e : (256 : Nat) ^ 32 = 2 ^ 256 := by decide
  by_cases h : x / 256 ^ 32 = 0
  · have hz : ∀ w u, Rd w u .i64 (dl 256 (n - 32) (x / 256 ^ 32)) → Fn Try.prog 71 #[u] w fun r N => r = .bool true ∧ N = [] := fun w u h' => by
      have := nzero_any (x / 256 ^ 32) (n - 32) hxh (by omega) u w h'
      rwa [decide_eq_true h] at this
    have hlt : x < 2 ^ 256 := by rw [e] at h; omega
    refine Fn_of (args := [v]) Try.func67 rfl Try.ntmps67 Try.results67 (by simp) ?_
    refine T_seq ?_
    refine T_region ?_
    refine S_allocA (zer rfl) rfl rfl fun _ => ?_
    refine S_nil ?_
    refine X_seq ?_
    refine T_seq ?_
    refine T_seq ?_
    refine T_region ?_
    refine S_val rfl rfl (Y_move rfl) ?_
    refine S_callV rfl rfl (bod rfl) (fun w hs => nhigh_any x n hn v _ (by first | exact hs.rowRd 0 rfl | exact hs.rowRd 1 rfl | exact hs.rowRd 2 rfl | exact hs.rowRd 3 rfl | exact hs.rowRd 4 rfl | exact hs.rowRd 5 rfl | exact hs.rowRd 6 rfl | exact hs.rowRd 7 rfl | exact hs.rowRd 8 rfl | exact hs.rowRd 9 rfl | exact hs.rowRd 10 rfl | exact hs.rowRd 11 rfl | exact hs.rowRd 12 rfl | exact hs.rowRd 13 rfl | exact Rd.st (by assumption) hs)) rfl rfl ?_
    skip
    refine S_callV rfl rfl (bod rfl) (fun w hs => hz _ _ (Rd.high (by first | exact hs.rowRd 0 rfl | exact hs.rowRd 1 rfl | exact hs.rowRd 2 rfl | exact hs.rowRd 3 rfl | exact hs.rowRd 4 rfl | exact hs.rowRd 5 rfl | exact hs.rowRd 6 rfl | exact hs.rowRd 7 rfl | exact hs.rowRd 8 rfl | exact hs.rowRd 9 rfl | exact hs.rowRd 10 rfl | exact hs.rowRd 11 rfl | exact hs.rowRd 12 rfl | exact hs.rowRd 13 rfl | exact Rd.st (by assumption) hs) (by omega))) rfl rfl ?_
    refine S_val rfl rfl (Y_not rfl rfl) ?_
    refine S_nil ?_
    refine X_seq ?_
    refine T_cond_false rfl ?_
    refine T_skip ?_
    refine X_seq ?_
    refine T_seq ?_
    refine T_region ?_
    refine S_val rfl rfl (Y_move rfl) ?_
    refine S_callV rfl rfl (bod rfl) (fun w hs => nword_any x n hx v _ (by first | exact hs.rowRd 0 rfl | exact hs.rowRd 1 rfl | exact hs.rowRd 2 rfl | exact hs.rowRd 3 rfl | exact hs.rowRd 4 rfl | exact hs.rowRd 5 rfl | exact hs.rowRd 6 rfl | exact hs.rowRd 7 rfl | exact hs.rowRd 8 rfl | exact hs.rowRd 9 rfl | exact hs.rowRd 10 rfl | exact hs.rowRd 11 rfl | exact hs.rowRd 12 rfl | exact hs.rowRd 13 rfl | exact Rd.st (by assumption) hs)) rfl rfl ?_
    refine S_storeAI 0 (siz rfl) rfl rfl rfl rfl (dl_length _ _ _) rfl ?_
    refine S_nil ?_
    refine X_seq ?_
    refine T_ret ?_
    ((first | refine X_fin_ret ?_ | refine X_fin ?_); exact ⟨[_], [], .cons (.agg 0 rfl (und rfl) rfl rfl (siz rfl)) .nil, Emb.nil _, by rw [Nat.min_eq_left (by omega)]; rfl, rfl⟩)
  · have hz : ∀ w u, Rd w u .i64 (dl 256 (n - 32) (x / 256 ^ 32)) → Fn Try.prog 71 #[u] w fun r N => r = .bool false ∧ N = [] := fun w u h' => by
      have := nzero_any (x / 256 ^ 32) (n - 32) hxh (by omega) u w h'
      rwa [decide_eq_false h] at this
    have hlt : 2 ^ 256 ≤ x := by
      rcases Nat.lt_or_ge x (2 ^ 256) with h' | h'
      · rw [← e] at h'; exact absurd (Nat.div_eq_of_lt h') h
      · exact h'
    refine Fn_of (args := [v]) Try.func67 rfl Try.ntmps67 Try.results67 (by simp) ?_
    refine T_seq ?_
    refine T_region ?_
    refine S_allocA (zer rfl) rfl rfl fun _ => ?_
    refine S_nil ?_
    refine X_seq ?_
    refine T_seq ?_
    refine T_seq ?_
    refine T_region ?_
    refine S_val rfl rfl (Y_move rfl) ?_
    refine S_callV rfl rfl (bod rfl) (fun w hs => nhigh_any x n hn v _ (by first | exact hs.rowRd 0 rfl | exact hs.rowRd 1 rfl | exact hs.rowRd 2 rfl | exact hs.rowRd 3 rfl | exact hs.rowRd 4 rfl | exact hs.rowRd 5 rfl | exact hs.rowRd 6 rfl | exact hs.rowRd 7 rfl | exact hs.rowRd 8 rfl | exact hs.rowRd 9 rfl | exact hs.rowRd 10 rfl | exact hs.rowRd 11 rfl | exact hs.rowRd 12 rfl | exact hs.rowRd 13 rfl | exact Rd.st (by assumption) hs)) rfl rfl ?_
    skip
    refine S_callV rfl rfl (bod rfl) (fun w hs => hz _ _ (Rd.high (by first | exact hs.rowRd 0 rfl | exact hs.rowRd 1 rfl | exact hs.rowRd 2 rfl | exact hs.rowRd 3 rfl | exact hs.rowRd 4 rfl | exact hs.rowRd 5 rfl | exact hs.rowRd 6 rfl | exact hs.rowRd 7 rfl | exact hs.rowRd 8 rfl | exact hs.rowRd 9 rfl | exact hs.rowRd 10 rfl | exact hs.rowRd 11 rfl | exact hs.rowRd 12 rfl | exact hs.rowRd 13 rfl | exact Rd.st (by assumption) hs) (by omega))) rfl rfl ?_
    refine S_val rfl rfl (Y_not rfl rfl) ?_
    refine S_nil ?_
    refine X_seq ?_
    refine T_cond_true rfl ?_
    refine T_seq ?_
    refine T_region ?_
    refine S_callV rfl rfl (bod rfl) (fun w hs => rtop_any _) rfl rfl ?_
    refine S_storeAI 0 (siz rfl) rfl rfl rfl rfl (dl_length _ _ _) rfl ?_
    refine S_nil ?_
    refine X_seq ?_
    refine T_ret ?_
    refine X_seq_ret ?_
    ((first | refine X_fin_ret ?_ | refine X_fin ?_); exact ⟨[_], [], .cons (.agg 0 rfl (und rfl) rfl rfl (siz rfl)) .nil, Emb.nil _, by rw [Nat.min_eq_right (by omega)]; rfl, rfl⟩)

theorem lt256 {x : Nat} (h : x < 2 ^ 256) : x < 256 ^ 32 := by rwa [show (256 : Nat) ^ 32 = 2 ^ 256 by decide]
theorem nof_small (g : Nat) (hg : g < 18446744073709551616) (w : World) : Fn Try.prog 36 #[.agg (ints .u64 (fillI (List.replicate 4 0) [(0, (g : Int))]))] w fun v N => N = [row .i64 (dl 256 32 g) v] := by
  have := nof_any g w
  unfold W at this
  rwa [← fill_small hg] at this
theorem rstep_any (b g t : Nat) (hb : b < 2 ^ 256) (hg : g < 18446744073709551616) (ht : t < 18446744073709551616) (w : World) :
    Fn Try.prog 34 #[W b, .int .u64 g, .int .u64 t] w fun v N => v = W (min (b * g / (t * 8)) (2 ^ 256 - 1)) ∧ N = [] := by
  by_cases h0 : t = 0
  · subst h0
    refine Fn_of (args := [W b, .int .u64 g, .int .u64 (0 : Nat)]) Try.func34 rfl Try.ntmps34 Try.results34 (by simp) ?_
    refine T_seq ?_
    refine T_region ?_
    refine S_boxA rfl rfl rfl fun _ => ?_
    refine S_allocA (zer rfl) rfl rfl fun _ => ?_
    refine S_nil ?_
    refine X_seq ?_
    refine T_seq ?_
    refine T_seq ?_
    refine T_region ?_
    refine S_val rfl rfl (Y_move rfl) ?_
    refine S_val rfl rfl (Y_eql_t rfl rfl (by decide)) ?_
    refine S_nil ?_
    refine X_seq ?_
    refine T_cond_true rfl ?_
    refine T_seq ?_
    refine T_region ?_
    refine S_val rfl rfl (Y_build (und rfl) (siz rfl) (zer rfl) rfl rfl) ?_
    refine S_storeAI 1 (siz rfl) rfl rfl rfl rfl rfl rfl ?_
    refine S_nil ?_
    refine X_seq ?_
    refine T_ret ?_
    refine X_seq_ret ?_
    ((first | refine X_fin_ret ?_ | refine X_fin ?_); exact ⟨[_], [], .cons (.agg 1 rfl (und rfl) rfl rfl (siz rfl)) .nil, Emb.nil _, by rw [Nat.zero_mul, Nat.div_zero, Nat.zero_min]; rfl, rfl⟩)
  · have hbg : b * g < 256 ^ 65 := by
      have : b * g < 2 ^ 256 * 2 ^ 64 := Nat.mul_lt_mul'' hb hg
      exact Nat.lt_of_lt_of_le this (by decide)
    have hq1 : b * g / t < 256 ^ 65 := Nat.lt_of_le_of_lt (Nat.div_le_self _ _) hbg
    have hq2 : b * g / t / 8 < 256 ^ 65 := Nat.lt_of_le_of_lt (Nat.div_le_self _ _) hq1
    have e8 : fillI (List.replicate 4 0) [(0, 8)] = fillI (List.replicate 4 0) [(0, ((8 : Nat) : Int))] := rfl
    have of8 : ∀ w, Fn Try.prog 36 #[.agg (ints .u64 (fillI (List.replicate 4 0) [(0, 8)]))] w fun v N => N = [row .i64 (dl 256 32 8) v] := fun w => nof_small 8 (by omega) w
    refine Fn_of (args := [W b, .int .u64 g, .int .u64 t]) Try.func34 rfl Try.ntmps34 Try.results34 (by simp) ?_
    refine T_seq ?_
    refine T_region ?_
    refine S_boxA rfl rfl rfl fun _ => ?_
    refine S_allocA (zer rfl) rfl rfl fun _ => ?_
    refine S_nil ?_
    refine X_seq ?_
    refine T_seq ?_
    refine T_seq ?_
    refine T_region ?_
    refine S_val rfl rfl (Y_move rfl) ?_
    refine S_val rfl rfl (Y_eql_f rfl rfl (by omega)) ?_
    refine S_nil ?_
    refine X_seq ?_
    refine T_cond_false rfl ?_
    refine T_skip ?_
    refine X_seq ?_
    refine T_seq ?_
    refine T_region ?_
    refine S_val rfl rfl (Y_loadAI 0 (und rfl) rfl rfl rfl (siz rfl) (dl_length _ _ _)) ?_
    refine S_callR _ rfl rfl (bod rfl) (fun w hs => nof_any b _) rfl rfl fun _ => ?_
    refine S_val rfl rfl (Y_move rfl) ?_
    refine S_val rfl rfl (Y_build (und rfl) (siz rfl) (zer rfl) rfl rfl) ?_
    refine S_callR _ rfl rfl (bod rfl) (fun w hs => nof_small g hg _) rfl rfl fun _ => ?_
    skip
    refine S_callR _ rfl rfl (bod rfl) (fun w hs => ntimes_any b g 32 32 (lt256 hb) (lt256 (by omega)) (by omega) (by omega) _ _ _ (by first | exact hs.rowRd 0 rfl | exact hs.rowRd 1 rfl | exact hs.rowRd 2 rfl | exact hs.rowRd 3 rfl | exact hs.rowRd 4 rfl | exact hs.rowRd 5 rfl | exact hs.rowRd 6 rfl | exact hs.rowRd 7 rfl | exact hs.rowRd 8 rfl | exact hs.rowRd 9 rfl | exact hs.rowRd 10 rfl | exact hs.rowRd 11 rfl | exact hs.rowRd 12 rfl | exact hs.rowRd 13 rfl | exact Rd.st (by assumption) hs) (by first | exact hs.rowRd 0 rfl | exact hs.rowRd 1 rfl | exact hs.rowRd 2 rfl | exact hs.rowRd 3 rfl | exact hs.rowRd 4 rfl | exact hs.rowRd 5 rfl | exact hs.rowRd 6 rfl | exact hs.rowRd 7 rfl | exact hs.rowRd 8 rfl | exact hs.rowRd 9 rfl | exact hs.rowRd 10 rfl | exact hs.rowRd 11 rfl | exact hs.rowRd 12 rfl | exact hs.rowRd 13 rfl | exact Rd.st (by assumption) hs)) rfl rfl fun _ => ?_
    refine S_val rfl rfl (Y_assign rfl) ?_
    refine S_nil ?_
    refine X_seq ?_
    refine T_seq ?_
    refine T_region ?_
    refine S_val rfl rfl (Y_move rfl) ?_
    refine S_val rfl rfl (Y_move rfl) ?_
    refine S_val rfl rfl (Y_build (und rfl) (siz rfl) (zer rfl) rfl rfl) ?_
    refine S_callR _ rfl rfl (bod rfl) (fun w hs => nof_small t ht _) rfl rfl fun _ => ?_
    skip
    refine S_call _ rfl rfl (bod rfl) (fun w hs => ndiv_any (b * g) t 65 32 hbg (lt256 (by omega)) (by omega) (by omega) _ _ _ (by first | exact hs.rowRd 0 rfl | exact hs.rowRd 1 rfl | exact hs.rowRd 2 rfl | exact hs.rowRd 3 rfl | exact hs.rowRd 4 rfl | exact hs.rowRd 5 rfl | exact hs.rowRd 6 rfl | exact hs.rowRd 7 rfl | exact hs.rowRd 8 rfl | exact hs.rowRd 9 rfl | exact hs.rowRd 10 rfl | exact hs.rowRd 11 rfl | exact hs.rowRd 12 rfl | exact hs.rowRd 13 rfl | exact Rd.st (by assumption) hs) (by first | exact hs.rowRd 0 rfl | exact hs.rowRd 1 rfl | exact hs.rowRd 2 rfl | exact hs.rowRd 3 rfl | exact hs.rowRd 4 rfl | exact hs.rowRd 5 rfl | exact hs.rowRd 6 rfl | exact hs.rowRd 7 rfl | exact hs.rowRd 8 rfl | exact hs.rowRd 9 rfl | exact hs.rowRd 10 rfl | exact hs.rowRd 11 rfl | exact hs.rowRd 12 rfl | exact hs.rowRd 13 rfl | exact Rd.st (by assumption) hs)) rfl rfl ?_
    rintro z N ⟨j, r, v1, v2, hr, hrj, hj, rfl, rfl⟩
    refine S_val rfl rfl (Y_move rfl) ?_
    refine S_val rfl rfl (Y_extract rfl rfl) ?_
    refine S_val rfl rfl (Y_extract rfl rfl) ?_
    refine S_val rfl rfl (Y_assign rfl) ?_
    refine S_val rfl rfl (Y_assign rfl) ?_
    refine S_nil ?_
    refine X_seq ?_
    refine T_seq ?_
    refine T_region ?_
    refine S_val rfl rfl (Y_move rfl) ?_
    refine S_val rfl rfl (Y_build (und rfl) (siz rfl) (zer rfl) rfl rfl) ?_
    refine S_callR _ rfl rfl (bod rfl) (fun w hs => of8 _) rfl rfl fun _ => ?_
    skip
    refine S_call _ rfl rfl (bod rfl) (fun w hs => ndiv_any (b * g / t) 8 65 32 hq1 (lt256 (by omega)) (by omega) (by omega) _ _ _ (by first | exact hs.rowRd 0 rfl | exact hs.rowRd 1 rfl | exact hs.rowRd 2 rfl | exact hs.rowRd 3 rfl | exact hs.rowRd 4 rfl | exact hs.rowRd 5 rfl | exact hs.rowRd 6 rfl | exact hs.rowRd 7 rfl | exact hs.rowRd 8 rfl | exact hs.rowRd 9 rfl | exact hs.rowRd 10 rfl | exact hs.rowRd 11 rfl | exact hs.rowRd 12 rfl | exact hs.rowRd 13 rfl | exact Rd.st (by assumption) hs) (by first | exact hs.rowRd 0 rfl | exact hs.rowRd 1 rfl | exact hs.rowRd 2 rfl | exact hs.rowRd 3 rfl | exact hs.rowRd 4 rfl | exact hs.rowRd 5 rfl | exact hs.rowRd 6 rfl | exact hs.rowRd 7 rfl | exact hs.rowRd 8 rfl | exact hs.rowRd 9 rfl | exact hs.rowRd 10 rfl | exact hs.rowRd 11 rfl | exact hs.rowRd 12 rfl | exact hs.rowRd 13 rfl | exact Rd.st (by assumption) hs)) rfl rfl ?_
    rintro z N ⟨j2, r2, v3, v4, hr2, hrj2, hj2, rfl, rfl⟩
    refine S_val rfl rfl (Y_move rfl) ?_
    refine S_val rfl rfl (Y_extract rfl rfl) ?_
    refine S_val rfl rfl (Y_extract rfl rfl) ?_
    refine S_val rfl rfl (Y_assign rfl) ?_
    refine S_nil ?_
    refine X_seq ?_
    refine T_seq ?_
    refine T_region ?_
    refine S_val rfl rfl (Y_move rfl) ?_
    refine S_callV rfl rfl (bod rfl) (fun w hs => rmost_any (b * g / t / 8) 65 (by omega) (by omega) hq2 _ _ (by first | exact hs.rowRd 0 rfl | exact hs.rowRd 1 rfl | exact hs.rowRd 2 rfl | exact hs.rowRd 3 rfl | exact hs.rowRd 4 rfl | exact hs.rowRd 5 rfl | exact hs.rowRd 6 rfl | exact hs.rowRd 7 rfl | exact hs.rowRd 8 rfl | exact hs.rowRd 9 rfl | exact hs.rowRd 10 rfl | exact hs.rowRd 11 rfl | exact hs.rowRd 12 rfl | exact hs.rowRd 13 rfl | exact Rd.st (by assumption) hs)) rfl rfl ?_
    refine S_storeAI 1 (siz rfl) rfl rfl rfl rfl (dl_length _ _ _) rfl ?_
    refine S_nil ?_
    refine X_seq ?_
    refine T_ret ?_
    ((first | refine X_fin_ret ?_ | refine X_fin ?_); exact ⟨[_], [], .cons (.agg 1 rfl (und rfl) rfl rfl (siz rfl)) .nil, Emb.nil _, by rw [Nat.div_div_eq_div_mul]; rfl, rfl⟩)

theorem rfnext_any (b u l : Nat) (hb : b < 2 ^ 256) (hu : u < 18446744073709551616) (hl : l < 18446744073709551616) (w : World) :
    Fn Try.prog 32 #[W b, .int .u64 u, .int .u64 l] w fun v N => v = W (feeNext b u l) ∧ N = [] := by
  by_cases h0 : l / 2 = 0
  · have hr : feeNext b u l = b := by unfold feeNext; simp only [h0]; rfl
    rw [hr]
    refine Fn_of (args := [W b, .int .u64 u, .int .u64 l]) Try.func32 rfl Try.ntmps32 Try.results32 (by simp) ?_
    refine T_seq ?_
    refine T_region ?_
    refine S_boxA rfl rfl rfl fun _ => ?_
    refine S_allocA (zer rfl) rfl rfl fun _ => ?_
    refine S_nil ?_
    refine X_seq ?_
    refine T_seq ?_
    refine T_region ?_
    refine S_val rfl rfl (Y_move rfl) ?_
    refine S_val rfl rfl (Y_quoN rfl rfl (nat_cast _) (nat_lit' _) (Nat.succ_ne_zero _) (by simp only [IntKind.max, IntKind.signed, IntKind.bits, Bool.false_eq_true, if_false, if_true]; omega)) ?_
    refine S_val rfl rfl (Y_assign rfl) ?_
    refine S_nil ?_
    refine X_seq ?_
    refine T_seq ?_
    refine T_seq ?_
    refine T_region ?_
    refine S_val rfl rfl (Y_move rfl) ?_
    refine S_val rfl rfl (Y_eql_t rfl rfl (by omega)) ?_
    refine S_val rfl rfl (Y_move rfl) ?_
    refine S_skip rfl rfl ?_
    refine S_skip rfl rfl ?_
    refine S_skip rfl rfl ?_
    refine S_val rfl rfl (Y_pick_t rfl rfl) ?_
    refine S_nil ?_
    refine X_seq ?_
    refine T_cond_true rfl ?_
    refine T_seq ?_
    refine T_region ?_
    refine S_val rfl rfl (Y_loadAI 0 (und rfl) rfl rfl rfl (siz rfl) (dl_length _ _ _)) ?_
    refine S_storeAI 1 (siz rfl) rfl rfl rfl rfl (dl_length _ _ _) rfl ?_
    refine S_nil ?_
    refine X_seq ?_
    refine T_ret ?_
    refine X_seq_ret ?_
    ((first | refine X_fin_ret ?_ | refine X_fin ?_); exact ⟨[_], [], .cons (.agg 1 rfl (und rfl) rfl rfl (siz rfl)) .nil, Emb.nil _, rfl, rfl⟩)
  · by_cases h1 : u = l / 2
    · have hr : feeNext b u l = b := by unfold feeNext; simp only [h1]; rw [if_pos (Or.inr trivial)]
      rw [hr]
      refine Fn_of (args := [W b, .int .u64 u, .int .u64 l]) Try.func32 rfl Try.ntmps32 Try.results32 (by simp) ?_
      refine T_seq ?_
      refine T_region ?_
      refine S_boxA rfl rfl rfl fun _ => ?_
      refine S_allocA (zer rfl) rfl rfl fun _ => ?_
      refine S_nil ?_
      refine X_seq ?_
      refine T_seq ?_
      refine T_region ?_
      refine S_val rfl rfl (Y_move rfl) ?_
      refine S_val rfl rfl (Y_quoN rfl rfl (nat_cast _) (nat_lit' _) (Nat.succ_ne_zero _) (by simp only [IntKind.max, IntKind.signed, IntKind.bits, Bool.false_eq_true, if_false, if_true]; omega)) ?_
      refine S_val rfl rfl (Y_assign rfl) ?_
      refine S_nil ?_
      refine X_seq ?_
      refine T_seq ?_
      refine T_seq ?_
      refine T_region ?_
      refine S_val rfl rfl (Y_move rfl) ?_
      refine S_val rfl rfl (Y_eql_f rfl rfl (by omega)) ?_
      refine S_val rfl rfl (Y_move rfl) ?_
      refine S_val rfl rfl (Y_move rfl) ?_
      refine S_val rfl rfl (Y_move rfl) ?_
      refine S_val rfl rfl (Y_eql_t rfl rfl (by omega)) ?_
      refine S_val rfl rfl (Y_pick_f rfl rfl) ?_
      refine S_nil ?_
      refine X_seq ?_
      refine T_cond_true rfl ?_
      refine T_seq ?_
      refine T_region ?_
      refine S_val rfl rfl (Y_loadAI 0 (und rfl) rfl rfl rfl (siz rfl) (dl_length _ _ _)) ?_
      refine S_storeAI 1 (siz rfl) rfl rfl rfl rfl (dl_length _ _ _) rfl ?_
      refine S_nil ?_
      refine X_seq ?_
      refine T_ret ?_
      refine X_seq_ret ?_
      ((first | refine X_fin_ret ?_ | refine X_fin ?_); exact ⟨[_], [], .cons (.agg 1 rfl (und rfl) rfl rfl (siz rfl)) .nil, Emb.nil _, rfl, rfl⟩)
    · by_cases h2 : u < l / 2
      · have hr : feeNext b u l = b - min (b * (l / 2 - u) / (l / 2 * 8)) (2 ^ 256 - 1) := by unfold feeNext; simp only; rw [if_neg (by omega), if_pos h2]
        rw [hr]
        have hst := fun w => rstep_any b (l / 2 - u) (l / 2) hb (by omega) (by omega) w
        have hsl : min (b * (l / 2 - u) / (l / 2 * 8)) (2 ^ 256 - 1) < 2 ^ 256 := by omega
        generalize min (b * (l / 2 - u) / (l / 2 * 8)) (2 ^ 256 - 1) = d at *
        by_cases h3 : b < d
        · have hls : ∀ w x y, Rd w x .i64 (dl 256 32 b) → Rd w y .i64 (dl 256 32 d) → Fn Try.prog 38 #[x, y] w fun r N => r = .bool true ∧ N = [] := fun w x y h h' => by
            have := nless_any b d 32 32 (lt256 hb) (lt256 hsl) (by omega) (by omega) x y w h h'
            rwa [decide_eq_true h3] at this
          refine Fn_of (args := [W b, .int .u64 u, .int .u64 l]) Try.func32 rfl Try.ntmps32 Try.results32 (by simp) ?_
          refine T_seq ?_
          refine T_region ?_
          refine S_boxA rfl rfl rfl fun _ => ?_
          refine S_allocA (zer rfl) rfl rfl fun _ => ?_
          refine S_nil ?_
          refine X_seq ?_
          refine T_seq ?_
          refine T_region ?_
          refine S_val rfl rfl (Y_move rfl) ?_
          refine S_val rfl rfl (Y_quoN rfl rfl (nat_cast _) (nat_lit' _) (Nat.succ_ne_zero _) (by simp only [IntKind.max, IntKind.signed, IntKind.bits, Bool.false_eq_true, if_false, if_true]; omega)) ?_
          refine S_val rfl rfl (Y_assign rfl) ?_
          refine S_nil ?_
          refine X_seq ?_
          refine T_seq ?_
          refine T_seq ?_
          refine T_region ?_
          refine S_val rfl rfl (Y_move rfl) ?_
          refine S_val rfl rfl (Y_eql_f rfl rfl (by omega)) ?_
          refine S_val rfl rfl (Y_move rfl) ?_
          refine S_val rfl rfl (Y_move rfl) ?_
          refine S_val rfl rfl (Y_move rfl) ?_
          refine S_val rfl rfl (Y_eql_f rfl rfl (by omega)) ?_
          refine S_val rfl rfl (Y_pick_f rfl rfl) ?_
          refine S_nil ?_
          refine X_seq ?_
          refine T_cond_false rfl ?_
          refine T_skip ?_
          refine X_seq ?_
          refine T_seq ?_
          refine T_region ?_
          refine S_val rfl rfl (Y_loadAI 0 (und rfl) rfl rfl rfl (siz rfl) (dl_length _ _ _)) ?_
          refine S_callR _ rfl rfl (bod rfl) (fun w hs => nof_any b _) rfl rfl fun _ => ?_
          refine S_val rfl rfl (Y_assign rfl) ?_
          refine S_nil ?_
          refine X_seq ?_
          refine T_seq ?_
          refine T_seq ?_
          refine T_region ?_
          refine S_val rfl rfl (Y_move rfl) ?_
          refine S_val rfl rfl (Y_move rfl) ?_
          refine S_val rfl rfl (Y_lss_t rfl rfl (by omega)) ?_
          refine S_nil ?_
          refine X_seq ?_
          refine T_cond_true rfl ?_
          refine T_seq ?_
          refine T_region ?_
          refine S_val rfl rfl (Y_loadAI 0 (und rfl) rfl rfl rfl (siz rfl) (dl_length _ _ _)) ?_
          refine S_val rfl rfl (Y_move rfl) ?_
          refine S_val rfl rfl (Y_move rfl) ?_
          refine S_val rfl rfl (Y_subU rfl rfl (nat_cast _) (nat_cast _) rfl (by omega) (by simp only [IntKind.bits]; omega)) ?_
          refine S_val rfl rfl (Y_move rfl) ?_
          refine S_callV rfl rfl (bod rfl) (fun w hs => hst _) rfl rfl ?_
          skip
          refine S_callR _ rfl rfl (bod rfl) (fun w hs => nof_any d _) rfl rfl fun _ => ?_
          refine S_val rfl rfl (Y_assign rfl) ?_
          refine S_nil ?_
          refine X_seq ?_
          refine T_seq ?_
          refine T_seq ?_
          refine T_region ?_
          refine S_val rfl rfl (Y_move rfl) ?_
          refine S_val rfl rfl (Y_move rfl) ?_
          refine S_callV rfl rfl (bod rfl) (fun w hs => hls _ _ _ (by first | exact hs.rowRd 0 rfl | exact hs.rowRd 1 rfl | exact hs.rowRd 2 rfl | exact hs.rowRd 3 rfl | exact hs.rowRd 4 rfl | exact hs.rowRd 5 rfl | exact hs.rowRd 6 rfl | exact hs.rowRd 7 rfl | exact hs.rowRd 8 rfl | exact hs.rowRd 9 rfl | exact hs.rowRd 10 rfl | exact hs.rowRd 11 rfl | exact hs.rowRd 12 rfl | exact hs.rowRd 13 rfl | exact Rd.st (by assumption) hs) (by first | exact hs.rowRd 0 rfl | exact hs.rowRd 1 rfl | exact hs.rowRd 2 rfl | exact hs.rowRd 3 rfl | exact hs.rowRd 4 rfl | exact hs.rowRd 5 rfl | exact hs.rowRd 6 rfl | exact hs.rowRd 7 rfl | exact hs.rowRd 8 rfl | exact hs.rowRd 9 rfl | exact hs.rowRd 10 rfl | exact hs.rowRd 11 rfl | exact hs.rowRd 12 rfl | exact hs.rowRd 13 rfl | exact Rd.st (by assumption) hs)) rfl rfl ?_
          refine S_nil ?_
          refine X_seq ?_
          refine T_cond_true rfl ?_
          refine T_seq ?_
          refine T_region ?_
          refine S_val rfl rfl (Y_build (und rfl) (siz rfl) (zer rfl) rfl rfl) ?_
          refine S_storeAI 1 (siz rfl) rfl rfl rfl rfl rfl rfl ?_
          refine S_nil ?_
          refine X_seq ?_
          refine T_ret ?_
          refine X_seq_ret ?_
          refine X_seq_ret ?_
          ((first | refine X_fin_ret ?_ | refine X_fin ?_); exact ⟨[_], [], .cons (.agg 1 rfl (und rfl) rfl rfl (siz rfl)) .nil, Emb.nil _, by rw [show b - d = 0 by omega]; rfl, rfl⟩)
        · have hls : ∀ w x y, Rd w x .i64 (dl 256 32 b) → Rd w y .i64 (dl 256 32 d) → Fn Try.prog 38 #[x, y] w fun r N => r = .bool false ∧ N = [] := fun w x y h h' => by
            have := nless_any b d 32 32 (lt256 hb) (lt256 hsl) (by omega) (by omega) x y w h h'
            rwa [decide_eq_false h3] at this
          have hmn : ∀ w x y, Rd w x .i64 (dl 256 32 b) → Rd w y .i64 (dl 256 32 d) → Fn Try.prog 65 #[x, y] w fun r N => N = [row .i64 (dl 256 32 (b - d)) r] := fun w x y h h' => by
            have e : b - d + d = b := by omega
            exact nminus_any (b - d) d 32 32 (by rw [e]; exact lt256 hb) (lt256 hsl) (by omega) (by omega) x y w (by rw [e]; exact h) h'
          refine Fn_of (args := [W b, .int .u64 u, .int .u64 l]) Try.func32 rfl Try.ntmps32 Try.results32 (by simp) ?_
          refine T_seq ?_
          refine T_region ?_
          refine S_boxA rfl rfl rfl fun _ => ?_
          refine S_allocA (zer rfl) rfl rfl fun _ => ?_
          refine S_nil ?_
          refine X_seq ?_
          refine T_seq ?_
          refine T_region ?_
          refine S_val rfl rfl (Y_move rfl) ?_
          refine S_val rfl rfl (Y_quoN rfl rfl (nat_cast _) (nat_lit' _) (Nat.succ_ne_zero _) (by simp only [IntKind.max, IntKind.signed, IntKind.bits, Bool.false_eq_true, if_false, if_true]; omega)) ?_
          refine S_val rfl rfl (Y_assign rfl) ?_
          refine S_nil ?_
          refine X_seq ?_
          refine T_seq ?_
          refine T_seq ?_
          refine T_region ?_
          refine S_val rfl rfl (Y_move rfl) ?_
          refine S_val rfl rfl (Y_eql_f rfl rfl (by omega)) ?_
          refine S_val rfl rfl (Y_move rfl) ?_
          refine S_val rfl rfl (Y_move rfl) ?_
          refine S_val rfl rfl (Y_move rfl) ?_
          refine S_val rfl rfl (Y_eql_f rfl rfl (by omega)) ?_
          refine S_val rfl rfl (Y_pick_f rfl rfl) ?_
          refine S_nil ?_
          refine X_seq ?_
          refine T_cond_false rfl ?_
          refine T_skip ?_
          refine X_seq ?_
          refine T_seq ?_
          refine T_region ?_
          refine S_val rfl rfl (Y_loadAI 0 (und rfl) rfl rfl rfl (siz rfl) (dl_length _ _ _)) ?_
          refine S_callR _ rfl rfl (bod rfl) (fun w hs => nof_any b _) rfl rfl fun _ => ?_
          refine S_val rfl rfl (Y_assign rfl) ?_
          refine S_nil ?_
          refine X_seq ?_
          refine T_seq ?_
          refine T_seq ?_
          refine T_region ?_
          refine S_val rfl rfl (Y_move rfl) ?_
          refine S_val rfl rfl (Y_move rfl) ?_
          refine S_val rfl rfl (Y_lss_t rfl rfl (by omega)) ?_
          refine S_nil ?_
          refine X_seq ?_
          refine T_cond_true rfl ?_
          refine T_seq ?_
          refine T_region ?_
          refine S_val rfl rfl (Y_loadAI 0 (und rfl) rfl rfl rfl (siz rfl) (dl_length _ _ _)) ?_
          refine S_val rfl rfl (Y_move rfl) ?_
          refine S_val rfl rfl (Y_move rfl) ?_
          refine S_val rfl rfl (Y_subU rfl rfl (nat_cast _) (nat_cast _) rfl (by omega) (by simp only [IntKind.bits]; omega)) ?_
          refine S_val rfl rfl (Y_move rfl) ?_
          refine S_callV rfl rfl (bod rfl) (fun w hs => hst _) rfl rfl ?_
          skip
          refine S_callR _ rfl rfl (bod rfl) (fun w hs => nof_any d _) rfl rfl fun _ => ?_
          refine S_val rfl rfl (Y_assign rfl) ?_
          refine S_nil ?_
          refine X_seq ?_
          refine T_seq ?_
          refine T_seq ?_
          refine T_region ?_
          refine S_val rfl rfl (Y_move rfl) ?_
          refine S_val rfl rfl (Y_move rfl) ?_
          refine S_callV rfl rfl (bod rfl) (fun w hs => hls _ _ _ (by first | exact hs.rowRd 0 rfl | exact hs.rowRd 1 rfl | exact hs.rowRd 2 rfl | exact hs.rowRd 3 rfl | exact hs.rowRd 4 rfl | exact hs.rowRd 5 rfl | exact hs.rowRd 6 rfl | exact hs.rowRd 7 rfl | exact hs.rowRd 8 rfl | exact hs.rowRd 9 rfl | exact hs.rowRd 10 rfl | exact hs.rowRd 11 rfl | exact hs.rowRd 12 rfl | exact hs.rowRd 13 rfl | exact Rd.st (by assumption) hs) (by first | exact hs.rowRd 0 rfl | exact hs.rowRd 1 rfl | exact hs.rowRd 2 rfl | exact hs.rowRd 3 rfl | exact hs.rowRd 4 rfl | exact hs.rowRd 5 rfl | exact hs.rowRd 6 rfl | exact hs.rowRd 7 rfl | exact hs.rowRd 8 rfl | exact hs.rowRd 9 rfl | exact hs.rowRd 10 rfl | exact hs.rowRd 11 rfl | exact hs.rowRd 12 rfl | exact hs.rowRd 13 rfl | exact Rd.st (by assumption) hs)) rfl rfl ?_
          refine S_nil ?_
          refine X_seq ?_
          refine T_cond_false rfl ?_
          refine T_skip ?_
          refine X_seq ?_
          refine T_seq ?_
          refine T_region ?_
          refine S_val rfl rfl (Y_move rfl) ?_
          refine S_val rfl rfl (Y_move rfl) ?_
          refine S_callR _ rfl rfl (bod rfl) (fun w hs => hmn _ _ _ (by first | exact hs.rowRd 0 rfl | exact hs.rowRd 1 rfl | exact hs.rowRd 2 rfl | exact hs.rowRd 3 rfl | exact hs.rowRd 4 rfl | exact hs.rowRd 5 rfl | exact hs.rowRd 6 rfl | exact hs.rowRd 7 rfl | exact hs.rowRd 8 rfl | exact hs.rowRd 9 rfl | exact hs.rowRd 10 rfl | exact hs.rowRd 11 rfl | exact hs.rowRd 12 rfl | exact hs.rowRd 13 rfl | exact Rd.st (by assumption) hs) (by first | exact hs.rowRd 0 rfl | exact hs.rowRd 1 rfl | exact hs.rowRd 2 rfl | exact hs.rowRd 3 rfl | exact hs.rowRd 4 rfl | exact hs.rowRd 5 rfl | exact hs.rowRd 6 rfl | exact hs.rowRd 7 rfl | exact hs.rowRd 8 rfl | exact hs.rowRd 9 rfl | exact hs.rowRd 10 rfl | exact hs.rowRd 11 rfl | exact hs.rowRd 12 rfl | exact hs.rowRd 13 rfl | exact Rd.st (by assumption) hs)) rfl rfl fun _ => ?_
          skip
          refine S_callV rfl rfl (bod rfl) (fun w hs => nword_any (b - d) 32 (lt256 (by omega)) _ _ (by first | exact hs.rowRd 0 rfl | exact hs.rowRd 1 rfl | exact hs.rowRd 2 rfl | exact hs.rowRd 3 rfl | exact hs.rowRd 4 rfl | exact hs.rowRd 5 rfl | exact hs.rowRd 6 rfl | exact hs.rowRd 7 rfl | exact hs.rowRd 8 rfl | exact hs.rowRd 9 rfl | exact hs.rowRd 10 rfl | exact hs.rowRd 11 rfl | exact hs.rowRd 12 rfl | exact hs.rowRd 13 rfl | exact Rd.st (by assumption) hs)) rfl rfl ?_
          refine S_storeAI 1 (siz rfl) rfl rfl rfl rfl (dl_length _ _ _) rfl ?_
          refine S_nil ?_
          refine X_seq ?_
          refine T_ret ?_
          refine X_seq_ret ?_
          ((first | refine X_fin_ret ?_ | refine X_fin ?_); exact ⟨[_], [], .cons (.agg 1 rfl (und rfl) rfl rfl (siz rfl)) .nil, Emb.nil _, rfl, rfl⟩)
      · have hr : feeNext b u l = min (b + max (min (b * (u - l / 2) / (l / 2 * 8)) (2 ^ 256 - 1)) 1) (2 ^ 256 - 1) := by unfold feeNext; simp only; rw [if_neg (by omega), if_neg h2]
        rw [hr]
        have hst := fun w => rstep_any b (u - l / 2) (l / 2) hb (by omega) (by omega) w
        have hsl : min (b * (u - l / 2) / (l / 2 * 8)) (2 ^ 256 - 1) < 2 ^ 256 := by omega
        generalize min (b * (u - l / 2) / (l / 2 * 8)) (2 ^ 256 - 1) = d at *
        have e0 : dl 18446744073709551616 4 0 = fillI (List.replicate 4 0) [] := by decide +kernel
        have of1 : ∀ w, Fn Try.prog 36 #[.agg (ints .u64 (fillI (List.replicate 4 0) [(0, 1)]))] w fun v N => N = [row .i64 (dl 256 32 1) v] := fun w => nof_small 1 (by omega) w
        by_cases h3 : d = 0
        · have e1 : dl 18446744073709551616 4 d = fillI (List.replicate 4 0) [] := by rw [h3]; exact e0
          refine Fn_of (args := [W b, .int .u64 u, .int .u64 l]) Try.func32 rfl Try.ntmps32 Try.results32 (by simp) ?_
          refine T_seq ?_
          refine T_region ?_
          refine S_boxA rfl rfl rfl fun _ => ?_
          refine S_allocA (zer rfl) rfl rfl fun _ => ?_
          refine S_nil ?_
          refine X_seq ?_
          refine T_seq ?_
          refine T_region ?_
          refine S_val rfl rfl (Y_move rfl) ?_
          refine S_val rfl rfl (Y_quoN rfl rfl (nat_cast _) (nat_lit' _) (Nat.succ_ne_zero _) (by simp only [IntKind.max, IntKind.signed, IntKind.bits, Bool.false_eq_true, if_false, if_true]; omega)) ?_
          refine S_val rfl rfl (Y_assign rfl) ?_
          refine S_nil ?_
          refine X_seq ?_
          refine T_seq ?_
          refine T_seq ?_
          refine T_region ?_
          refine S_val rfl rfl (Y_move rfl) ?_
          refine S_val rfl rfl (Y_eql_f rfl rfl (by omega)) ?_
          refine S_val rfl rfl (Y_move rfl) ?_
          refine S_val rfl rfl (Y_move rfl) ?_
          refine S_val rfl rfl (Y_move rfl) ?_
          refine S_val rfl rfl (Y_eql_f rfl rfl (by omega)) ?_
          refine S_val rfl rfl (Y_pick_f rfl rfl) ?_
          refine S_nil ?_
          refine X_seq ?_
          refine T_cond_false rfl ?_
          refine T_skip ?_
          refine X_seq ?_
          refine T_seq ?_
          refine T_region ?_
          refine S_val rfl rfl (Y_loadAI 0 (und rfl) rfl rfl rfl (siz rfl) (dl_length _ _ _)) ?_
          refine S_callR _ rfl rfl (bod rfl) (fun w hs => nof_any b _) rfl rfl fun _ => ?_
          refine S_val rfl rfl (Y_assign rfl) ?_
          refine S_nil ?_
          refine X_seq ?_
          refine T_seq ?_
          refine T_seq ?_
          refine T_region ?_
          refine S_val rfl rfl (Y_move rfl) ?_
          refine S_val rfl rfl (Y_move rfl) ?_
          refine S_val rfl rfl (Y_lss_f rfl rfl (by omega)) ?_
          refine S_nil ?_
          refine X_seq ?_
          refine T_cond_false rfl ?_
          refine T_skip ?_
          refine X_seq ?_
          refine T_seq ?_
          refine T_region ?_
          refine S_val rfl rfl (Y_loadAI 0 (und rfl) rfl rfl rfl (siz rfl) (dl_length _ _ _)) ?_
          refine S_val rfl rfl (Y_move rfl) ?_
          refine S_val rfl rfl (Y_move rfl) ?_
          refine S_val rfl rfl (Y_subU rfl rfl (nat_cast _) (nat_cast _) rfl (by omega) (by simp only [IntKind.bits]; assumption)) ?_
          refine S_val rfl rfl (Y_move rfl) ?_
          refine S_callV rfl rfl (bod rfl) (fun w hs => hst _) rfl rfl ?_
          refine S_allocA (zer rfl) rfl rfl fun _ => ?_
          refine S_storeAI 3 (siz rfl) rfl rfl rfl rfl (dl_length _ _ _) rfl ?_
          refine S_nil ?_
          refine X_seq ?_
          refine T_seq ?_
          refine T_seq ?_
          refine T_region ?_
          refine S_val rfl rfl (Y_loadAI 3 (und rfl) rfl rfl rfl (siz rfl) (dl_length _ _ _)) ?_
          refine S_val rfl rfl (Y_build (und rfl) (siz rfl) (zer rfl) rfl rfl) ?_
          refine S_val rfl rfl (Y_eqlA_t (eqg rfl) (und rfl) (und rfl) (siz rfl) rfl rfl (dl_length _ _ _) (by assumption)) ?_
          refine S_nil ?_
          refine X_seq ?_
          refine T_cond_true rfl ?_
          refine T_region ?_
          refine S_val rfl rfl (Y_build (und rfl) (siz rfl) (zer rfl) rfl rfl) ?_
          refine S_storeAI 3 (siz rfl) rfl rfl rfl (dl_length _ _ _) rfl rfl ?_
          refine S_nil ?_
          refine X_seq ?_
          refine T_seq ?_
          refine T_region ?_
          refine S_val rfl rfl (Y_move rfl) ?_
          refine S_val rfl rfl (Y_loadAI 3 (und rfl) rfl rfl rfl (siz rfl) rfl) ?_
          refine S_callR _ rfl rfl (bod rfl) (fun w hs => of1 _) rfl rfl fun _ => ?_
          skip
          refine S_callR _ rfl rfl (bod rfl) (fun w hs => nplus_any b 1 32 32 (lt256 hb) (lt256 (by omega)) (by omega) (by omega) _ _ _ (by first | exact hs.rowRd 0 rfl | exact hs.rowRd 1 rfl | exact hs.rowRd 2 rfl | exact hs.rowRd 3 rfl | exact hs.rowRd 4 rfl | exact hs.rowRd 5 rfl | exact hs.rowRd 6 rfl | exact hs.rowRd 7 rfl | exact hs.rowRd 8 rfl | exact hs.rowRd 9 rfl | exact hs.rowRd 10 rfl | exact hs.rowRd 11 rfl | exact hs.rowRd 12 rfl | exact hs.rowRd 13 rfl | exact Rd.st (by assumption) hs) (by first | exact hs.rowRd 0 rfl | exact hs.rowRd 1 rfl | exact hs.rowRd 2 rfl | exact hs.rowRd 3 rfl | exact hs.rowRd 4 rfl | exact hs.rowRd 5 rfl | exact hs.rowRd 6 rfl | exact hs.rowRd 7 rfl | exact hs.rowRd 8 rfl | exact hs.rowRd 9 rfl | exact hs.rowRd 10 rfl | exact hs.rowRd 11 rfl | exact hs.rowRd 12 rfl | exact hs.rowRd 13 rfl | exact Rd.st (by assumption) hs)) rfl rfl fun _ => ?_
          skip
          refine S_callV rfl rfl (bod rfl) (fun w hs => rmost_any (b + 1) (max 32 32 + 1) (by omega) (by omega) (by have := lt256 hb; rw [Nat.max_self, Nat.pow_succ]; omega) _ _ (by first | exact hs.rowRd 0 rfl | exact hs.rowRd 1 rfl | exact hs.rowRd 2 rfl | exact hs.rowRd 3 rfl | exact hs.rowRd 4 rfl | exact hs.rowRd 5 rfl | exact hs.rowRd 6 rfl | exact hs.rowRd 7 rfl | exact hs.rowRd 8 rfl | exact hs.rowRd 9 rfl | exact hs.rowRd 10 rfl | exact hs.rowRd 11 rfl | exact hs.rowRd 12 rfl | exact hs.rowRd 13 rfl | exact Rd.st (by assumption) hs)) rfl rfl ?_
          refine S_storeAI 1 (siz rfl) rfl rfl rfl rfl (dl_length _ _ _) rfl ?_
          refine S_nil ?_
          refine X_seq ?_
          refine T_ret ?_
          ((first | refine X_fin_ret ?_ | refine X_fin ?_); exact ⟨[_], [], .cons (.agg 1 rfl (und rfl) rfl rfl (siz rfl)) .nil, Emb.nil _, by rw [h3]; rfl, rfl⟩)
        · have e1 : ¬ dl 18446744073709551616 4 d = fillI (List.replicate 4 0) [] := by rw [← e0]; exact W_ne hsl (by omega) h3
          refine Fn_of (args := [W b, .int .u64 u, .int .u64 l]) Try.func32 rfl Try.ntmps32 Try.results32 (by simp) ?_
          refine T_seq ?_
          refine T_region ?_
          refine S_boxA rfl rfl rfl fun _ => ?_
          refine S_allocA (zer rfl) rfl rfl fun _ => ?_
          refine S_nil ?_
          refine X_seq ?_
          refine T_seq ?_
          refine T_region ?_
          refine S_val rfl rfl (Y_move rfl) ?_
          refine S_val rfl rfl (Y_quoN rfl rfl (nat_cast _) (nat_lit' _) (Nat.succ_ne_zero _) (by simp only [IntKind.max, IntKind.signed, IntKind.bits, Bool.false_eq_true, if_false, if_true]; omega)) ?_
          refine S_val rfl rfl (Y_assign rfl) ?_
          refine S_nil ?_
          refine X_seq ?_
          refine T_seq ?_
          refine T_seq ?_
          refine T_region ?_
          refine S_val rfl rfl (Y_move rfl) ?_
          refine S_val rfl rfl (Y_eql_f rfl rfl (by omega)) ?_
          refine S_val rfl rfl (Y_move rfl) ?_
          refine S_val rfl rfl (Y_move rfl) ?_
          refine S_val rfl rfl (Y_move rfl) ?_
          refine S_val rfl rfl (Y_eql_f rfl rfl (by omega)) ?_
          refine S_val rfl rfl (Y_pick_f rfl rfl) ?_
          refine S_nil ?_
          refine X_seq ?_
          refine T_cond_false rfl ?_
          refine T_skip ?_
          refine X_seq ?_
          refine T_seq ?_
          refine T_region ?_
          refine S_val rfl rfl (Y_loadAI 0 (und rfl) rfl rfl rfl (siz rfl) (dl_length _ _ _)) ?_
          refine S_callR _ rfl rfl (bod rfl) (fun w hs => nof_any b _) rfl rfl fun _ => ?_
          refine S_val rfl rfl (Y_assign rfl) ?_
          refine S_nil ?_
          refine X_seq ?_
          refine T_seq ?_
          refine T_seq ?_
          refine T_region ?_
          refine S_val rfl rfl (Y_move rfl) ?_
          refine S_val rfl rfl (Y_move rfl) ?_
          refine S_val rfl rfl (Y_lss_f rfl rfl (by omega)) ?_
          refine S_nil ?_
          refine X_seq ?_
          refine T_cond_false rfl ?_
          refine T_skip ?_
          refine X_seq ?_
          refine T_seq ?_
          refine T_region ?_
          refine S_val rfl rfl (Y_loadAI 0 (und rfl) rfl rfl rfl (siz rfl) (dl_length _ _ _)) ?_
          refine S_val rfl rfl (Y_move rfl) ?_
          refine S_val rfl rfl (Y_move rfl) ?_
          refine S_val rfl rfl (Y_subU rfl rfl (nat_cast _) (nat_cast _) rfl (by omega) (by simp only [IntKind.bits]; assumption)) ?_
          refine S_val rfl rfl (Y_move rfl) ?_
          refine S_callV rfl rfl (bod rfl) (fun w hs => hst _) rfl rfl ?_
          refine S_allocA (zer rfl) rfl rfl fun _ => ?_
          refine S_storeAI 3 (siz rfl) rfl rfl rfl rfl (dl_length _ _ _) rfl ?_
          refine S_nil ?_
          refine X_seq ?_
          refine T_seq ?_
          refine T_seq ?_
          refine T_region ?_
          refine S_val rfl rfl (Y_loadAI 3 (und rfl) rfl rfl rfl (siz rfl) (dl_length _ _ _)) ?_
          refine S_val rfl rfl (Y_build (und rfl) (siz rfl) (zer rfl) rfl rfl) ?_
          refine S_val rfl rfl (Y_eqlA_f (eqg rfl) (und rfl) (und rfl) (siz rfl) rfl rfl (dl_length _ _ _) rfl (by assumption)) ?_
          refine S_nil ?_
          refine X_seq ?_
          refine T_cond_false rfl ?_
          refine T_skip ?_
          refine X_seq ?_
          refine T_seq ?_
          refine T_region ?_
          refine S_val rfl rfl (Y_move rfl) ?_
          refine S_val rfl rfl (Y_loadAI 3 (und rfl) rfl rfl rfl (siz rfl) (dl_length _ _ _)) ?_
          refine S_callR _ rfl rfl (bod rfl) (fun w hs => nof_any d _) rfl rfl fun _ => ?_
          skip
          refine S_callR _ rfl rfl (bod rfl) (fun w hs => nplus_any b d 32 32 (lt256 hb) (lt256 hsl) (by omega) (by omega) _ _ _ (by first | exact hs.rowRd 0 rfl | exact hs.rowRd 1 rfl | exact hs.rowRd 2 rfl | exact hs.rowRd 3 rfl | exact hs.rowRd 4 rfl | exact hs.rowRd 5 rfl | exact hs.rowRd 6 rfl | exact hs.rowRd 7 rfl | exact hs.rowRd 8 rfl | exact hs.rowRd 9 rfl | exact hs.rowRd 10 rfl | exact hs.rowRd 11 rfl | exact hs.rowRd 12 rfl | exact hs.rowRd 13 rfl | exact Rd.st (by assumption) hs) (by first | exact hs.rowRd 0 rfl | exact hs.rowRd 1 rfl | exact hs.rowRd 2 rfl | exact hs.rowRd 3 rfl | exact hs.rowRd 4 rfl | exact hs.rowRd 5 rfl | exact hs.rowRd 6 rfl | exact hs.rowRd 7 rfl | exact hs.rowRd 8 rfl | exact hs.rowRd 9 rfl | exact hs.rowRd 10 rfl | exact hs.rowRd 11 rfl | exact hs.rowRd 12 rfl | exact hs.rowRd 13 rfl | exact Rd.st (by assumption) hs)) rfl rfl fun _ => ?_
          skip
          refine S_callV rfl rfl (bod rfl) (fun w hs => rmost_any (b + d) (max 32 32 + 1) (by omega) (by omega) (by have := lt256 hb; have := lt256 hsl; rw [Nat.max_self, Nat.pow_succ]; omega) _ _ (by first | exact hs.rowRd 0 rfl | exact hs.rowRd 1 rfl | exact hs.rowRd 2 rfl | exact hs.rowRd 3 rfl | exact hs.rowRd 4 rfl | exact hs.rowRd 5 rfl | exact hs.rowRd 6 rfl | exact hs.rowRd 7 rfl | exact hs.rowRd 8 rfl | exact hs.rowRd 9 rfl | exact hs.rowRd 10 rfl | exact hs.rowRd 11 rfl | exact hs.rowRd 12 rfl | exact hs.rowRd 13 rfl | exact Rd.st (by assumption) hs)) rfl rfl ?_
          refine S_storeAI 1 (siz rfl) rfl rfl rfl rfl (dl_length _ _ _) rfl ?_
          refine S_nil ?_
          refine X_seq ?_
          refine T_ret ?_
          ((first | refine X_fin_ret ?_ | refine X_fin ?_); exact ⟨[_], [], .cons (.agg 1 rfl (und rfl) rfl rfl (siz rfl)) .nil, Emb.nil _, by rw [show max d 1 = d by omega]; rfl, rfl⟩)

theorem ffixed_any (w : World) : Fn Try.prog 30 #[] w fun v N => v = .bool true ∧ N = [] := by
  have c1 : dl 18446744073709551616 4 (feeNext 1000 20 20) = fillI (List.replicate 4 0) [(0, 1125)] := by decide +kernel
  have c2 : dl 18446744073709551616 4 (feeNext 1000 10 20) = fillI (List.replicate 4 0) [(0, 1000)] := by decide +kernel
  have c3 : dl 18446744073709551616 4 (feeNext 1000 0 20) = fillI (List.replicate 4 0) [(0, 875)] := by decide +kernel
  have c4 : dl 18446744073709551616 4 (feeNext 1 11 20) = fillI (List.replicate 4 0) [(0, 2)] := by decide +kernel
  have f : ∀ (b : Nat), b < 18446744073709551616 → ∀ u l, u < 18446744073709551616 → l < 18446744073709551616 → ∀ w, Fn Try.prog 31 #[.agg (ints .u64 (fillI (List.replicate 4 0) [(0, (b : Int))])), .int .u64 ((u : Nat) : Int), .int .u64 ((l : Nat) : Int)] w fun v N => v = W (feeNext b u l) ∧ N = [] := fun b hb u l hu hl w => by
    have := fnext_any b u l (by omega) hu hl w
    unfold W at this ⊢
    rwa [← fill_small hb] at this
  have f1 := f 1000 (by omega) 20 20 (by omega) (by omega)
  have f2 := f 1000 (by omega) 10 20 (by omega) (by omega)
  have f3 := f 1000 (by omega) 0 20 (by omega) (by omega)
  have f4 := f 1 (by omega) 11 20 (by omega) (by omega)
  refine Fn_of (args := []) Try.func30 rfl Try.ntmps30 Try.results30 (by simp) ?_
  refine T_seq ?_
  refine T_region ?_
  refine S_val rfl rfl (Y_assign rfl) ?_
  refine S_nil ?_
  refine X_seq ?_
  refine T_seq ?_
  refine T_region ?_
  refine S_val rfl rfl (Y_build (und rfl) (siz rfl) (zer rfl) rfl rfl) ?_
  refine S_allocA (zer rfl) rfl rfl fun _ => ?_
  refine S_storeAI 0 (siz rfl) rfl rfl rfl rfl rfl rfl ?_
  refine S_nil ?_
  refine X_seq ?_
  refine T_seq ?_
  refine T_draw (by kernel_rfl) (by kernel_rfl) rfl ?_
  refine D0_valM rfl rfl rfl (Y_loadAI 0 (und rfl) rfl rfl rfl (siz rfl) rfl) ?_
  refine D0_callV rfl rfl (bod rfl) (fun w hs => f1 _) rfl rfl ?_
  refine D0_val rfl rfl rfl (Y_build (und rfl) (siz rfl) (zer rfl) rfl rfl) ?_
  refine D0_val rfl rfl rfl (Y_eqlA_t (eqg rfl) (und rfl) (und rfl) (siz rfl) rfl rfl (dl_length _ _ _) rfl) ?_
  refine D0_val rfl rfl rfl (Y_move rfl) ?_
  refine D0_valM rfl rfl rfl (Y_loadAI 0 (und rfl) rfl rfl rfl (siz rfl) rfl) ?_
  refine D0_callV rfl rfl (bod rfl) (fun w hs => f2 _) rfl rfl ?_
  refine D0_valM rfl rfl rfl (Y_loadAI 0 (und rfl) rfl rfl rfl (siz rfl) rfl) ?_
  refine D0_val rfl rfl rfl (Y_eqlA_t (eqg rfl) (und rfl) (und rfl) (siz rfl) rfl rfl (dl_length _ _ _) rfl) ?_
  refine D0_val rfl rfl rfl (Y_pick_t rfl rfl) ?_
  refine D0_val rfl rfl rfl (Y_move rfl) ?_
  refine D0_valM rfl rfl rfl (Y_loadAI 0 (und rfl) rfl rfl rfl (siz rfl) rfl) ?_
  refine D0_callV rfl rfl (bod rfl) (fun w hs => f3 _) rfl rfl ?_
  refine D0_val rfl rfl rfl (Y_build (und rfl) (siz rfl) (zer rfl) rfl rfl) ?_
  refine D0_val rfl rfl rfl (Y_eqlA_t (eqg rfl) (und rfl) (und rfl) (siz rfl) rfl rfl (dl_length _ _ _) rfl) ?_
  refine D0_val rfl rfl rfl (Y_pick_t rfl rfl) ?_
  refine D0_val rfl rfl rfl (Y_move rfl) ?_
  refine D0_val rfl rfl rfl (Y_build (und rfl) (siz rfl) (zer rfl) rfl rfl) ?_
  refine D0_callV rfl rfl (bod rfl) (fun w hs => f4 _) rfl rfl ?_
  refine D0_val rfl rfl rfl (Y_build (und rfl) (siz rfl) (zer rfl) rfl rfl) ?_
  refine D0_val rfl rfl rfl (Y_eqlA_t (eqg rfl) (und rfl) (und rfl) (siz rfl) rfl rfl (dl_length _ _ _) rfl) ?_
  refine D0_val rfl rfl rfl (Y_pick_t rfl rfl) ?_
  refine D0_val rfl rfl rfl (Y_assign rfl) ?_
  refine D0_nil ?_
  refine X_seq ?_
  refine T_ret ?_
  ((first | refine X_fin_ret ?_ | refine X_fin ?_); exact ⟨[_], [], .cons (.tmp rfl) .nil, Emb.nil _, rfl, rfl⟩)
end Go.Proofs.Ytepmghjiemggpaa
