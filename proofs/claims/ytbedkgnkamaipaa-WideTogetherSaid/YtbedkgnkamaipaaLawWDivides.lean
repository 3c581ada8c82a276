import Derived.Test.YtbedkgnkamaipaaLaw02
import Derived.Test.YtbedkgnkamaipaaRN3
import Derived.Test.YtbedkgnkamaipaaDraw3
/- The laws WideDivides, WideRests, WideTogether hand back true. -/
namespace Go.Proofs.Ytbedkgnkamaipaa
open Go.RowKit
set_option maxRecDepth 20000
set_option maxHeartbeats 4000000

theorem lt32 {x : Nat} (hx : x < 2 ^ 256) : x < 256 ^ 32 := by rwa [show (256 : Nat) ^ 32 = 2 ^ 256 by decide]
theorem wdivides_law (x : Nat) (hx : x < 2 ^ 256) (y : Nat) (hy : y < 2 ^ 256) (w : World) :
    Fn Try.prog 3 #[W x, W y] w fun v N => v = .bool true ∧ N = [] := by
  have hq : x / y < 256 ^ 32 := Nat.lt_of_le_of_lt (Nat.div_le_self _ _) (lt32 hx)
  refine Fn_of (args := [W x, W y]) Try.func3 rfl Try.ntmps3 Try.results3 (by simp) ?_
  refine T_seq ?_
  refine T_region ?_
  refine S_boxA rfl rfl rfl fun _ => ?_
  refine S_boxA rfl rfl rfl fun _ => ?_
  refine S_val rfl rfl (Y_assign rfl) ?_
  refine S_nil ?_
  refine X_seq ?_
  refine T_seq ?_
  refine T_region ?_
  refine S_val rfl rfl (Y_loadAI 0 (und rfl) rfl rfl rfl (siz rfl) (dl_length _ _ _)) ?_
  refine S_val rfl rfl (Y_loadAI 1 (und rfl) rfl rfl rfl (siz rfl) (dl_length _ _ _)) ?_
  refine S_callV rfl rfl (bod rfl) (fun w hs => wdiv_any x y hx hy _) rfl rfl ?_
  refine S_val rfl rfl (Y_move rfl) ?_
  refine S_val rfl rfl (Y_extract rfl rfl) ?_
  refine S_val rfl rfl (Y_extract rfl rfl) ?_
  refine S_allocA (zer rfl) rfl rfl fun _ => ?_
  refine S_allocA (zer rfl) rfl rfl fun _ => ?_
  refine S_storeAI 2 (siz rfl) rfl rfl rfl rfl (dl_length _ _ _) rfl ?_
  refine S_storeAI 3 (siz rfl) rfl rfl rfl rfl (dl_length _ _ _) rfl ?_
  refine S_nil ?_
  refine X_seq ?_
  refine T_seq ?_
  refine T_draw (by kernel_rfl) (by kernel_rfl) rfl ?_
  refine D0_valM rfl rfl rfl (Y_loadAI 0 (und rfl) rfl rfl rfl (siz rfl) (dl_length _ _ _)) ?_
  refine D0_two ?_
  skip
  refine D2_call [] (by kernel_rfl) (fun _ => rfl) (fun _ => rfl) (bod rfl) (fun H w hK hs => nof_any x w) (fun _ => rfl) rfl ?_
  refine D2_valM rfl (fun _ => rfl) rfl (fun _ => (Y_loadAI 1 (und rfl) rfl rfl rfl (siz rfl) (dl_length _ _ _))) ?_
  refine D2_call [] (by kernel_rfl) (fun _ => rfl) (fun _ => rfl) (bod rfl) (fun H w hK hs => nof_any y w) (fun _ => rfl) rfl ?_
  skip
  refine D2_call [0, 1] (by kernel_rfl) (fun _ => rfl) (fun _ => rfl) (bod rfl) (fun H w hK hs => ndiv_any x y 32 32 (lt32 hx) (lt32 hy) (by omega) (by omega) _ _ w (by first | exact Kn.rd hK hs 0 rfl | exact Kn.rd hK hs 1 rfl | exact Kn.rd hK hs 2 rfl | exact Kn.rd hK hs 3 rfl | exact Kn.rd hK hs 4 rfl | exact Kn.rd hK hs 5 rfl | exact hs.left.rowRd 0 rfl | exact hs.left.rowRd 1 rfl | exact hs.left.rowRd 2 rfl | exact hs.left.rowRd 3 rfl | exact hs.left.rowRd 4 rfl | exact hs.left.rowRd 5 rfl | exact hs.left.rowRd 6 rfl | exact hs.left.rowRd 7 rfl | exact hs.left.rowRd 8 rfl | exact hs.left.rowRd 9 rfl | exact hs.left.rowRd 10 rfl | exact hs.left.rowRd 11 rfl | exact hs.left.rowRd 12 rfl | exact hs.left.rowRd 13 rfl | exact Rd.st (by assumption) hs) (by first | exact Kn.rd hK hs 0 rfl | exact Kn.rd hK hs 1 rfl | exact Kn.rd hK hs 2 rfl | exact Kn.rd hK hs 3 rfl | exact Kn.rd hK hs 4 rfl | exact Kn.rd hK hs 5 rfl | exact hs.left.rowRd 0 rfl | exact hs.left.rowRd 1 rfl | exact hs.left.rowRd 2 rfl | exact hs.left.rowRd 3 rfl | exact hs.left.rowRd 4 rfl | exact hs.left.rowRd 5 rfl | exact hs.left.rowRd 6 rfl | exact hs.left.rowRd 7 rfl | exact hs.left.rowRd 8 rfl | exact hs.left.rowRd 9 rfl | exact hs.left.rowRd 10 rfl | exact hs.left.rowRd 11 rfl | exact hs.left.rowRd 12 rfl | exact hs.left.rowRd 13 rfl | exact Rd.st (by assumption) hs)) (fun _ => rfl) rfl ?_
  refine D2_move _ (by kernel_rfl) (fun _ => rfl) rfl (fun _ => rfl) ?_
  refine D2_extract 2 rfl (by kernel_rfl) (by rintro u N ⟨j, r, v1, v2, _, _, _, rfl, _⟩; exact ⟨[v1, v2], rfl, by simp⟩) (fun _ => rfl) rfl (fun _ => rfl) ?_
  refine D2_extract 2 rfl (by kernel_rfl) (by rintro u N ⟨j, r, v1, v2, _, _, _, rfl, _⟩; exact ⟨[v1, v2], rfl, by simp⟩) (fun _ => rfl) rfl (fun _ => rfl) ?_
  refine D2_asgT _ _ (by kernel_rfl) (fun _ => rfl) rfl (fun _ => rfl) ?_
  refine D2_asgT _ _ (by kernel_rfl) (fun _ => rfl) rfl (fun _ => rfl) ?_
  refine D2_nil fun H hK => ?_
  have h1 : (H 1).2 = [row .i64 (dl 256 32 x) (H 1).1] := hK _ (List.mem_of_getElem? (i := 0) rfl)
  have h3 : (H 3).2 = [row .i64 (dl 256 32 y) (H 3).1] := hK _ (List.mem_of_getElem? (i := 1) rfl)
  obtain ⟨j, r, v1, v2, hr, hrj, hj, hz, hN⟩ := hK _ (List.mem_of_getElem? (i := 2) rfl)
  have hr' : r = remN x y := hr
  simp only at hz hN
  have e0 : tg (.tuple #[v1, v2]) 0 = v1 := rfl
  have e1 : tg (.tuple #[v1, v2]) 1 = v2 := rfl
  simp only [Kn.hp, List.flatMap_cons, List.flatMap_nil, List.nil_append, List.cons_append, List.append_nil, h1, h3, hN, hz, e0, e1]
  subst hr'
  clear hK h1 h3 hN hz hr
  refine X_seq ?_
  refine T_seq ?_
  refine T_draw (by kernel_rfl) (by kernel_rfl) rfl ?_
  refine D0_callV rfl rfl (bod rfl) (fun w hs => wfixed_any _) rfl rfl ?_
  refine D0_val rfl rfl rfl (Y_move rfl) ?_
  refine D0_valM rfl rfl rfl (Y_loadAI 2 (und rfl) rfl rfl rfl (siz rfl) (dl_length _ _ _)) ?_
  refine D0_val rfl rfl rfl (Y_move rfl) ?_
  refine D0_callV rfl rfl (bod rfl) (fun w hs => nword_any (x / y) 32 hq _ _ (by first | exact hs.rowRd 0 rfl | exact hs.rowRd 1 rfl | exact hs.rowRd 2 rfl | exact hs.rowRd 3 rfl | exact hs.rowRd 4 rfl | exact hs.rowRd 5 rfl | exact hs.rowRd 6 rfl | exact hs.rowRd 7 rfl | exact hs.rowRd 8 rfl | exact hs.rowRd 9 rfl | exact hs.rowRd 10 rfl | exact hs.rowRd 11 rfl | exact hs.rowRd 12 rfl | exact hs.rowRd 13 rfl | exact Rd.st (by assumption) hs)) rfl rfl ?_
  refine D0_val rfl rfl rfl (Y_eqlA_t (eqg rfl) (und rfl) (und rfl) (siz rfl) rfl rfl (dl_length _ _ _) rfl) ?_
  refine D0_val rfl rfl rfl (Y_pick_t rfl rfl) ?_
  refine D0_val rfl rfl rfl (Y_move rfl) ?_
  refine D0_valM rfl rfl rfl (Y_loadAI 3 (und rfl) rfl rfl rfl (siz rfl) (dl_length _ _ _)) ?_
  refine D0_val rfl rfl rfl (Y_move rfl) ?_
  refine D0_callV rfl rfl (bod rfl) (fun w hs => nword_any (remN x y) j hrj _ _ (by first | exact hs.rowRd 0 rfl | exact hs.rowRd 1 rfl | exact hs.rowRd 2 rfl | exact hs.rowRd 3 rfl | exact hs.rowRd 4 rfl | exact hs.rowRd 5 rfl | exact hs.rowRd 6 rfl | exact hs.rowRd 7 rfl | exact hs.rowRd 8 rfl | exact hs.rowRd 9 rfl | exact hs.rowRd 10 rfl | exact hs.rowRd 11 rfl | exact hs.rowRd 12 rfl | exact hs.rowRd 13 rfl | exact Rd.st (by assumption) hs)) rfl rfl ?_
  refine D0_val rfl rfl rfl (Y_eqlA_t (eqg rfl) (und rfl) (und rfl) (siz rfl) rfl rfl (dl_length _ _ _) rfl) ?_
  refine D0_val rfl rfl rfl (Y_pick_t rfl rfl) ?_
  refine D0_val rfl rfl rfl (Y_assign rfl) ?_
  refine D0_nil ?_
  refine X_seq ?_
  refine T_ret ?_
  ((first | refine X_fin_ret ?_ | refine X_fin ?_); exact ⟨[_], [], .cons (.tmp rfl) .nil, Emb.nil _, rfl, rfl⟩)
theorem together_laws (x y : Nat) (hx : x < 2 ^ 256) (hy : y < 2 ^ 256) (h0 : 0 < y) : x % y < 2 ^ 256 ∧ x / y * y + x % y = x ∧ x / y < 2 ^ 256 := by
  have := Nat.mod_lt x h0
  have h2 := Nat.div_add_mod x y
  rw [Nat.mul_comm] at h2
  exact ⟨by omega, h2, Nat.lt_of_le_of_lt (Nat.div_le_self _ _) hx⟩
theorem wtogether_law (x : Nat) (hx : x < 2 ^ 256) (y : Nat) (hy : y < 2 ^ 256) (w : World) :
    Fn Try.prog 4 #[W x, W y] w fun v N => v = .bool true ∧ N = [] := by
  by_cases h0 : y = 0
  · have hd : ∀ w, Fn Try.prog 14 #[W x, W y] w fun v N => v = .tuple #[W y, W y] ∧ N = [] := fun w => by
      have := wdiv_any x y hx hy w
      rwa [show x / y = y by rw [h0, Nat.div_zero], show remN x y = y by unfold remN; rw [if_pos h0]; exact h0.symm] at this
    have ey : dl 18446744073709551616 4 y = fillI (List.replicate 4 0) [] := by rw [h0]; exact e_zero
    clear h0
    refine Fn_of (args := [W x, W y]) Try.func4 rfl Try.ntmps4 Try.results4 (by simp) ?_
    refine T_seq ?_
    refine T_region ?_
    refine S_boxA rfl rfl rfl fun _ => ?_
    refine S_boxA rfl rfl rfl fun _ => ?_
    refine S_val rfl rfl (Y_assign rfl) ?_
    refine S_nil ?_
    refine X_seq ?_
    refine T_seq ?_
    refine T_region ?_
    refine S_val rfl rfl (Y_loadAI 0 (und rfl) rfl rfl rfl (siz rfl) (dl_length _ _ _)) ?_
    refine S_val rfl rfl (Y_loadAI 1 (und rfl) rfl rfl rfl (siz rfl) (dl_length _ _ _)) ?_
    refine S_callV rfl rfl (bod rfl) (fun w hs => hd _) rfl rfl ?_
    refine S_val rfl rfl (Y_move rfl) ?_
    refine S_val rfl rfl (Y_extract rfl rfl) ?_
    refine S_val rfl rfl (Y_extract rfl rfl) ?_
    refine S_allocA (zer rfl) rfl rfl fun _ => ?_
    refine S_allocA (zer rfl) rfl rfl fun _ => ?_
    refine S_storeAI 2 (siz rfl) rfl rfl rfl rfl (dl_length _ _ _) rfl ?_
    refine S_storeAI 3 (siz rfl) rfl rfl rfl rfl (dl_length _ _ _) rfl ?_
    refine S_nil ?_
    refine X_seq ?_
    refine T_seq ?_
    refine T_seq ?_
    refine T_region ?_
    refine S_val rfl rfl (Y_loadAI 1 (und rfl) rfl rfl rfl (siz rfl) (dl_length _ _ _)) ?_
    refine S_val rfl rfl (Y_build (und rfl) (siz rfl) (zer rfl) rfl rfl) ?_
    refine S_val rfl rfl (Y_eqlA_t (eqg rfl) (und rfl) (und rfl) (siz rfl) rfl rfl (dl_length _ _ _) (by assumption)) ?_
    refine S_nil ?_
    refine X_seq ?_
    refine T_cond_true rfl ?_
    refine T_seq ?_
    refine T_region ?_
    refine S_callV rfl rfl (bod rfl) (fun w hs => wfixed_any _) rfl rfl ?_
    refine S_val rfl rfl (Y_move rfl) ?_
    refine S_val rfl rfl (Y_loadAI 2 (und rfl) rfl rfl rfl (siz rfl) (dl_length _ _ _)) ?_
    refine S_val rfl rfl (Y_loadAI 1 (und rfl) rfl rfl rfl (siz rfl) (dl_length _ _ _)) ?_
    refine S_val rfl rfl (Y_eqlA_t (eqg rfl) (und rfl) (und rfl) (siz rfl) rfl rfl (dl_length _ _ _) rfl) ?_
    refine S_val rfl rfl (Y_pick_t rfl rfl) ?_
    refine S_val rfl rfl (Y_move rfl) ?_
    refine S_val rfl rfl (Y_loadAI 3 (und rfl) rfl rfl rfl (siz rfl) (dl_length _ _ _)) ?_
    refine S_val rfl rfl (Y_loadAI 1 (und rfl) rfl rfl rfl (siz rfl) (dl_length _ _ _)) ?_
    refine S_val rfl rfl (Y_eqlA_t (eqg rfl) (und rfl) (und rfl) (siz rfl) rfl rfl (dl_length _ _ _) rfl) ?_
    refine S_val rfl rfl (Y_pick_t rfl rfl) ?_
    refine S_val rfl rfl (Y_assign rfl) ?_
    refine S_nil ?_
    refine X_seq ?_
    refine T_ret ?_
    refine X_seq_ret ?_
    ((first | refine X_fin_ret ?_ | refine X_fin ?_); exact ⟨[_], [], .cons (.tmp rfl) .nil, Emb.nil _, rfl, rfl⟩)
  · have ey : ¬ dl 18446744073709551616 4 y = fillI (List.replicate 4 0) [] := by rw [← e_zero]; exact W_ne hy (by omega) h0
    obtain ⟨hr, hqr, hq⟩ := together_laws x y hx hy (by omega)
    have hlt := Nat.mod_lt x (show 0 < y by omega)
    have hd : ∀ w, Fn Try.prog 14 #[W x, W y] w fun v N => v = .tuple #[W (x / y), W (x % y)] ∧ N = [] := fun w => by
      have := wdiv_any x y hx hy w
      rwa [show remN x y = x % y by unfold remN; rw [if_neg h0]] at this
    generalize x / y = q at *
    generalize x % y = r at *
    have hqy : q * y < 256 ^ (32 + 32 + 1) := Nat.lt_of_le_of_lt (show q * y ≤ x by omega) (Nat.lt_of_lt_of_le (lt32 hx) (Nat.pow_le_pow_right (by omega) (by omega)))
    have hle : ∀ w v u, Rd w v .i64 (dl 256 32 r) → Rd w u .i64 (dl 256 32 y) → Fn Try.prog 21 #[v, u] w fun r N => r = .bool true ∧ N = [] := fun w v u h h' => by
      have := nless_any r y 32 32 (lt32 hr) (lt32 hy) (by omega) (by omega) v u w h h'
      rwa [decide_eq_true hlt] at this
    have hpl : ∀ w v u, Rd w v .i64 (dl 256 (32 + 32 + 1) (q * y)) → Rd w u .i64 (dl 256 32 r) → Fn Try.prog 19 #[v, u] w fun z N => N = [row .i64 (dl 256 (max (32 + 32 + 1) 32 + 1) x) z] := fun w v u h h' => by
      have := nplus_any (q * y) r (32 + 32 + 1) 32 hqy (lt32 hr) (by omega) (by omega) v u w h h'
      rwa [hqr] at this
    have hzr : ∀ w v, Rd w v .i64 (dl 256 (max (32 + 32 + 1) 32 + 1) x) → Fn Try.prog 22 #[vDrop 32 v] w fun u N => u = .bool true ∧ N = [] := fun w v h => by
      have h1 := h.high (by omega)
      have := nzero_any (x / 256 ^ 32) (max (32 + 32 + 1) 32 + 1 - 32) (by rw [Nat.div_eq_of_lt (lt32 hx)]; exact Nat.pow_pos (by omega)) (by omega) (vDrop 32 v) w h1
      rwa [Nat.div_eq_of_lt (lt32 hx), decide_eq_true rfl] at this
    have hxl : x < 256 ^ (max (32 + 32 + 1) 32 + 1) := Nat.lt_of_lt_of_le (lt32 hx) (Nat.pow_le_pow_right (by omega) (by omega))
    clear h0
    refine Fn_of (args := [W x, W y]) Try.func4 rfl Try.ntmps4 Try.results4 (by simp) ?_
    refine T_seq ?_
    refine T_region ?_
    refine S_boxA rfl rfl rfl fun _ => ?_
    refine S_boxA rfl rfl rfl fun _ => ?_
    refine S_val rfl rfl (Y_assign rfl) ?_
    refine S_nil ?_
    refine X_seq ?_
    refine T_seq ?_
    refine T_region ?_
    refine S_val rfl rfl (Y_loadAI 0 (und rfl) rfl rfl rfl (siz rfl) (dl_length _ _ _)) ?_
    refine S_val rfl rfl (Y_loadAI 1 (und rfl) rfl rfl rfl (siz rfl) (dl_length _ _ _)) ?_
    refine S_callV rfl rfl (bod rfl) (fun w hs => hd _) rfl rfl ?_
    refine S_val rfl rfl (Y_move rfl) ?_
    refine S_val rfl rfl (Y_extract rfl rfl) ?_
    refine S_val rfl rfl (Y_extract rfl rfl) ?_
    refine S_allocA (zer rfl) rfl rfl fun _ => ?_
    refine S_allocA (zer rfl) rfl rfl fun _ => ?_
    refine S_storeAI 2 (siz rfl) rfl rfl rfl rfl (dl_length _ _ _) rfl ?_
    refine S_storeAI 3 (siz rfl) rfl rfl rfl rfl (dl_length _ _ _) rfl ?_
    refine S_nil ?_
    refine X_seq ?_
    refine T_seq ?_
    refine T_seq ?_
    refine T_region ?_
    refine S_val rfl rfl (Y_loadAI 1 (und rfl) rfl rfl rfl (siz rfl) (dl_length _ _ _)) ?_
    refine S_val rfl rfl (Y_build (und rfl) (siz rfl) (zer rfl) rfl rfl) ?_
    refine S_val rfl rfl (Y_eqlA_f (eqg rfl) (und rfl) (und rfl) (siz rfl) rfl rfl (dl_length _ _ _) rfl (by assumption)) ?_
    refine S_nil ?_
    refine X_seq ?_
    refine T_cond_false rfl ?_
    refine T_skip ?_
    refine X_seq ?_
    refine T_seq ?_
    refine T_draw (by kernel_rfl) (by kernel_rfl) rfl ?_
    refine D0_valM rfl rfl rfl (Y_loadAI 2 (und rfl) rfl rfl rfl (siz rfl) (dl_length _ _ _)) ?_
    refine D0_two ?_
    skip
    refine D2_call [] (by kernel_rfl) (fun _ => rfl) (fun _ => rfl) (bod rfl) (fun H w hK hs => nof_any q w) (fun _ => rfl) rfl ?_
    refine D2_valM rfl (fun _ => rfl) rfl (fun _ => (Y_loadAI 1 (und rfl) rfl rfl rfl (siz rfl) (dl_length _ _ _))) ?_
    refine D2_call [] (by kernel_rfl) (fun _ => rfl) (fun _ => rfl) (bod rfl) (fun H w hK hs => nof_any y w) (fun _ => rfl) rfl ?_
    skip
    refine D2_call [0, 1] (by kernel_rfl) (fun _ => rfl) (fun _ => rfl) (bod rfl) (fun H w hK hs => ntimes_any q y 32 32 (lt32 hq) (lt32 hy) (by omega) (by omega) _ _ w (by first | exact Kn.rd hK hs 0 rfl | exact Kn.rd hK hs 1 rfl | exact Kn.rd hK hs 2 rfl | exact Kn.rd hK hs 3 rfl | exact Kn.rd hK hs 4 rfl | exact Kn.rd hK hs 5 rfl | exact hs.left.rowRd 0 rfl | exact hs.left.rowRd 1 rfl | exact hs.left.rowRd 2 rfl | exact hs.left.rowRd 3 rfl | exact hs.left.rowRd 4 rfl | exact hs.left.rowRd 5 rfl | exact hs.left.rowRd 6 rfl | exact hs.left.rowRd 7 rfl | exact hs.left.rowRd 8 rfl | exact hs.left.rowRd 9 rfl | exact hs.left.rowRd 10 rfl | exact hs.left.rowRd 11 rfl | exact hs.left.rowRd 12 rfl | exact hs.left.rowRd 13 rfl | exact Rd.st (by assumption) hs) (by first | exact Kn.rd hK hs 0 rfl | exact Kn.rd hK hs 1 rfl | exact Kn.rd hK hs 2 rfl | exact Kn.rd hK hs 3 rfl | exact Kn.rd hK hs 4 rfl | exact Kn.rd hK hs 5 rfl | exact hs.left.rowRd 0 rfl | exact hs.left.rowRd 1 rfl | exact hs.left.rowRd 2 rfl | exact hs.left.rowRd 3 rfl | exact hs.left.rowRd 4 rfl | exact hs.left.rowRd 5 rfl | exact hs.left.rowRd 6 rfl | exact hs.left.rowRd 7 rfl | exact hs.left.rowRd 8 rfl | exact hs.left.rowRd 9 rfl | exact hs.left.rowRd 10 rfl | exact hs.left.rowRd 11 rfl | exact hs.left.rowRd 12 rfl | exact hs.left.rowRd 13 rfl | exact Rd.st (by assumption) hs)) (fun _ => rfl) rfl ?_
    refine D2_valM rfl (fun _ => rfl) rfl (fun _ => (Y_loadAI 3 (und rfl) rfl rfl rfl (siz rfl) (dl_length _ _ _))) ?_
    refine D2_call [] (by kernel_rfl) (fun _ => rfl) (fun _ => rfl) (bod rfl) (fun H w hK hs => nof_any r w) (fun _ => rfl) rfl ?_
    skip
    refine D2_call [2, 3] (by kernel_rfl) (fun _ => rfl) (fun _ => rfl) (bod rfl) (fun H w hK hs => hpl w _ _ (by first | exact Kn.rd hK hs 0 rfl | exact Kn.rd hK hs 1 rfl | exact Kn.rd hK hs 2 rfl | exact Kn.rd hK hs 3 rfl | exact Kn.rd hK hs 4 rfl | exact Kn.rd hK hs 5 rfl | exact hs.left.rowRd 0 rfl | exact hs.left.rowRd 1 rfl | exact hs.left.rowRd 2 rfl | exact hs.left.rowRd 3 rfl | exact hs.left.rowRd 4 rfl | exact hs.left.rowRd 5 rfl | exact hs.left.rowRd 6 rfl | exact hs.left.rowRd 7 rfl | exact hs.left.rowRd 8 rfl | exact hs.left.rowRd 9 rfl | exact hs.left.rowRd 10 rfl | exact hs.left.rowRd 11 rfl | exact hs.left.rowRd 12 rfl | exact hs.left.rowRd 13 rfl | exact Rd.st (by assumption) hs) (by first | exact Kn.rd hK hs 0 rfl | exact Kn.rd hK hs 1 rfl | exact Kn.rd hK hs 2 rfl | exact Kn.rd hK hs 3 rfl | exact Kn.rd hK hs 4 rfl | exact Kn.rd hK hs 5 rfl | exact hs.left.rowRd 0 rfl | exact hs.left.rowRd 1 rfl | exact hs.left.rowRd 2 rfl | exact hs.left.rowRd 3 rfl | exact hs.left.rowRd 4 rfl | exact hs.left.rowRd 5 rfl | exact hs.left.rowRd 6 rfl | exact hs.left.rowRd 7 rfl | exact hs.left.rowRd 8 rfl | exact hs.left.rowRd 9 rfl | exact hs.left.rowRd 10 rfl | exact hs.left.rowRd 11 rfl | exact hs.left.rowRd 12 rfl | exact hs.left.rowRd 13 rfl | exact Rd.st (by assumption) hs)) (fun _ => rfl) rfl ?_
    refine D2_asg _ (by kernel_rfl) (fun _ => rfl) rfl (fun _ => rfl) ?_
    refine D2_nilR [(1, .i64, dl 256 32 q), (3, .i64, dl 256 32 y), (4, .i64, dl 256 (32 + 32 + 1) (q * y)), (6, .i64, dl 256 32 r), (7, .i64, dl 256 (max (32 + 32 + 1) 32 + 1) x)] rfl fun V => ?_
    refine X_seq ?_
    refine T_seq ?_
    refine T_draw (by kernel_rfl) (by kernel_rfl) rfl ?_
    refine D0_callV rfl rfl (bod rfl) (fun w hs => wfixed_any _) rfl rfl ?_
    refine D0_val rfl rfl rfl (Y_move rfl) ?_
    refine D0_valM rfl rfl rfl (Y_loadAI 3 (und rfl) rfl rfl rfl (siz rfl) (dl_length _ _ _)) ?_
    refine D0_two ?_
    skip
    refine D2_call [] (by kernel_rfl) (fun _ => rfl) (fun _ => rfl) (bod rfl) (fun H w hK hs => nof_any r w) (fun _ => rfl) rfl ?_
    refine D2_valM rfl (fun _ => rfl) rfl (fun _ => (Y_loadAI 1 (und rfl) rfl rfl rfl (siz rfl) (dl_length _ _ _))) ?_
    refine D2_call [] (by kernel_rfl) (fun _ => rfl) (fun _ => rfl) (bod rfl) (fun H w hK hs => nof_any y w) (fun _ => rfl) rfl ?_
    skip
    refine D2_callV [0, 1] (by kernel_rfl) (fun _ => rfl) (fun _ => rfl) (bod rfl) (fun H w hK hs => hle w _ _ (by first | exact Kn.rd hK hs 0 rfl | exact Kn.rd hK hs 1 rfl | exact Kn.rd hK hs 2 rfl | exact Kn.rd hK hs 3 rfl | exact Kn.rd hK hs 4 rfl | exact Kn.rd hK hs 5 rfl | exact hs.left.rowRd 0 rfl | exact hs.left.rowRd 1 rfl | exact hs.left.rowRd 2 rfl | exact hs.left.rowRd 3 rfl | exact hs.left.rowRd 4 rfl | exact hs.left.rowRd 5 rfl | exact hs.left.rowRd 6 rfl | exact hs.left.rowRd 7 rfl | exact hs.left.rowRd 8 rfl | exact hs.left.rowRd 9 rfl | exact hs.left.rowRd 10 rfl | exact hs.left.rowRd 11 rfl | exact hs.left.rowRd 12 rfl | exact hs.left.rowRd 13 rfl | exact Rd.st (by assumption) hs) (by first | exact Kn.rd hK hs 0 rfl | exact Kn.rd hK hs 1 rfl | exact Kn.rd hK hs 2 rfl | exact Kn.rd hK hs 3 rfl | exact Kn.rd hK hs 4 rfl | exact Kn.rd hK hs 5 rfl | exact hs.left.rowRd 0 rfl | exact hs.left.rowRd 1 rfl | exact hs.left.rowRd 2 rfl | exact hs.left.rowRd 3 rfl | exact hs.left.rowRd 4 rfl | exact hs.left.rowRd 5 rfl | exact hs.left.rowRd 6 rfl | exact hs.left.rowRd 7 rfl | exact hs.left.rowRd 8 rfl | exact hs.left.rowRd 9 rfl | exact hs.left.rowRd 10 rfl | exact hs.left.rowRd 11 rfl | exact hs.left.rowRd 12 rfl | exact hs.left.rowRd 13 rfl | exact Rd.st (by assumption) hs)) (fun _ => rfl) rfl ?_
    refine D2_val rfl (fun _ => rfl) rfl (fun _ => (Y_pick_t rfl rfl)) ?_
    refine D2_val rfl (fun _ => rfl) rfl (fun _ => (Y_move rfl)) ?_
    refine D2_val rfl (fun _ => rfl) rfl (fun _ => (Y_move rfl)) ?_
    refine D2_callV [] (by kernel_rfl) (fun _ => rfl) (fun _ => rfl) (bod rfl) (fun H w hK hs => nword_any x (max (32 + 32 + 1) 32 + 1) hxl _ w (by first | exact Kn.rd hK hs 0 rfl | exact Kn.rd hK hs 1 rfl | exact Kn.rd hK hs 2 rfl | exact Kn.rd hK hs 3 rfl | exact Kn.rd hK hs 4 rfl | exact Kn.rd hK hs 5 rfl | exact hs.left.rowRd 0 rfl | exact hs.left.rowRd 1 rfl | exact hs.left.rowRd 2 rfl | exact hs.left.rowRd 3 rfl | exact hs.left.rowRd 4 rfl | exact hs.left.rowRd 5 rfl | exact hs.left.rowRd 6 rfl | exact hs.left.rowRd 7 rfl | exact hs.left.rowRd 8 rfl | exact hs.left.rowRd 9 rfl | exact hs.left.rowRd 10 rfl | exact hs.left.rowRd 11 rfl | exact hs.left.rowRd 12 rfl | exact hs.left.rowRd 13 rfl | exact Rd.st (by assumption) hs)) (fun _ => rfl) rfl ?_
    refine D2_valM rfl (fun _ => rfl) rfl (fun _ => (Y_loadAI 0 (und rfl) rfl rfl rfl (siz rfl) (dl_length _ _ _))) ?_
    refine D2_val rfl (fun _ => rfl) rfl (fun _ => (Y_eqlA_t (eqg rfl) (und rfl) (und rfl) (siz rfl) rfl rfl (dl_length _ _ _) rfl)) ?_
    refine D2_val rfl (fun _ => rfl) rfl (fun _ => (Y_pick_t rfl rfl)) ?_
    refine D2_val rfl (fun _ => rfl) rfl (fun _ => (Y_move rfl)) ?_
    refine D2_val rfl (fun _ => rfl) rfl (fun _ => (Y_move rfl)) ?_
    refine D2_callV [] (by kernel_rfl) (fun _ => rfl) (fun _ => rfl) (bod rfl) (fun H w hK hs => nhigh_any x (max (32 + 32 + 1) 32 + 1) (by omega) _ w (by first | exact Kn.rd hK hs 0 rfl | exact Kn.rd hK hs 1 rfl | exact Kn.rd hK hs 2 rfl | exact Kn.rd hK hs 3 rfl | exact Kn.rd hK hs 4 rfl | exact Kn.rd hK hs 5 rfl | exact hs.left.rowRd 0 rfl | exact hs.left.rowRd 1 rfl | exact hs.left.rowRd 2 rfl | exact hs.left.rowRd 3 rfl | exact hs.left.rowRd 4 rfl | exact hs.left.rowRd 5 rfl | exact hs.left.rowRd 6 rfl | exact hs.left.rowRd 7 rfl | exact hs.left.rowRd 8 rfl | exact hs.left.rowRd 9 rfl | exact hs.left.rowRd 10 rfl | exact hs.left.rowRd 11 rfl | exact hs.left.rowRd 12 rfl | exact hs.left.rowRd 13 rfl | exact Rd.st (by assumption) hs)) (fun _ => rfl) rfl ?_
    skip
    refine D2_callV [] (by kernel_rfl) (fun _ => rfl) (fun _ => rfl) (bod rfl) (fun H w hK hs => hzr w _ (by first | exact Kn.rd hK hs 0 rfl | exact Kn.rd hK hs 1 rfl | exact Kn.rd hK hs 2 rfl | exact Kn.rd hK hs 3 rfl | exact Kn.rd hK hs 4 rfl | exact Kn.rd hK hs 5 rfl | exact hs.left.rowRd 0 rfl | exact hs.left.rowRd 1 rfl | exact hs.left.rowRd 2 rfl | exact hs.left.rowRd 3 rfl | exact hs.left.rowRd 4 rfl | exact hs.left.rowRd 5 rfl | exact hs.left.rowRd 6 rfl | exact hs.left.rowRd 7 rfl | exact hs.left.rowRd 8 rfl | exact hs.left.rowRd 9 rfl | exact hs.left.rowRd 10 rfl | exact hs.left.rowRd 11 rfl | exact hs.left.rowRd 12 rfl | exact hs.left.rowRd 13 rfl | exact Rd.st (by assumption) hs)) (fun _ => rfl) rfl ?_
    refine D2_val rfl (fun _ => rfl) rfl (fun _ => (Y_pick_t rfl rfl)) ?_
    refine D2_val rfl (fun _ => rfl) rfl (fun _ => (Y_assign rfl)) ?_
    refine D2_nilR [(3, .i64, dl 256 32 r), (5, .i64, dl 256 32 y)] rfl fun V => ?_
    refine X_seq ?_
    refine T_ret ?_
    ((first | refine X_fin_ret ?_ | refine X_fin ?_); exact ⟨[_], [], .cons (.tmp rfl) .nil, Emb.nil _, rfl, rfl⟩)
theorem wrests_law (x : Nat) (hx : x < 2 ^ 256) (y : Nat) (hy : y < 2 ^ 256) (m : Nat) (hm : m < 2 ^ 256) (w : World) :
    Fn Try.prog 6 #[W x, W y, W m] w fun v N => v = .bool true ∧ N = [] := by
  have hxy : x * y < 256 ^ (32 + 32 + 1) := Nat.lt_of_lt_of_le (Nat.mul_lt_mul'' (lt32 hx) (lt32 hy)) (by rw [← Nat.pow_add]; exact Nat.pow_le_pow_right (by omega) (by omega))
  have hsum : x + y < 256 ^ (max 32 32 + 1) := Nat.lt_of_lt_of_le (show x + y < 2 ^ 256 * 256 by omega) (by rw [show (2 : Nat) ^ 256 * 256 = 256 ^ (max 32 32 + 1) by decide]; exact Nat.le_refl _)
  refine Fn_of (args := [W x, W y, W m]) Try.func6 rfl Try.ntmps6 Try.results6 (by simp) ?_
  refine T_seq ?_
  refine T_region ?_
  refine S_boxA rfl rfl rfl fun _ => ?_
  refine S_boxA rfl rfl rfl fun _ => ?_
  refine S_boxA rfl rfl rfl fun _ => ?_
  refine S_val rfl rfl (Y_assign rfl) ?_
  refine S_nil ?_
  refine X_seq ?_
  refine T_seq ?_
  refine T_draw (by kernel_rfl) (by kernel_rfl) rfl ?_
  refine D0_valM rfl rfl rfl (Y_loadAI 0 (und rfl) rfl rfl rfl (siz rfl) (dl_length _ _ _)) ?_
  refine D0_two ?_
  skip
  refine D2_call [] (by kernel_rfl) (fun _ => rfl) (fun _ => rfl) (bod rfl) (fun H w hK hs => nof_any x w) (fun _ => rfl) rfl ?_
  refine D2_valM rfl (fun _ => rfl) rfl (fun _ => (Y_loadAI 1 (und rfl) rfl rfl rfl (siz rfl) (dl_length _ _ _))) ?_
  refine D2_call [] (by kernel_rfl) (fun _ => rfl) (fun _ => rfl) (bod rfl) (fun H w hK hs => nof_any y w) (fun _ => rfl) rfl ?_
  refine D2_valM rfl (fun _ => rfl) rfl (fun _ => (Y_loadAI 2 (und rfl) rfl rfl rfl (siz rfl) (dl_length _ _ _))) ?_
  refine D2_call [] (by kernel_rfl) (fun _ => rfl) (fun _ => rfl) (bod rfl) (fun H w hK hs => nof_any m w) (fun _ => rfl) rfl ?_
  refine D2_asg _ (by kernel_rfl) (fun _ => rfl) rfl (fun _ => rfl) ?_
  refine D2_asg _ (by kernel_rfl) (fun _ => rfl) rfl (fun _ => rfl) ?_
  refine D2_asg _ (by kernel_rfl) (fun _ => rfl) rfl (fun _ => rfl) ?_
  refine D2_nilR [(1, .i64, dl 256 32 x), (3, .i64, dl 256 32 y), (5, .i64, dl 256 32 m)] rfl fun V => ?_
  refine X_seq ?_
  refine T_seq ?_
  refine T_region ?_
  refine S_val rfl rfl (Y_move rfl) ?_
  refine S_val rfl rfl (Y_move rfl) ?_
  refine S_callR _ rfl rfl (bod rfl) (fun w hs => nplus_any x y 32 32 (lt32 hx) (lt32 hy) (by omega) (by omega) _ _ _ (by first | exact hs.rowRd 0 rfl | exact hs.rowRd 1 rfl | exact hs.rowRd 2 rfl | exact hs.rowRd 3 rfl | exact hs.rowRd 4 rfl | exact hs.rowRd 5 rfl | exact hs.rowRd 6 rfl | exact hs.rowRd 7 rfl | exact hs.rowRd 8 rfl | exact hs.rowRd 9 rfl | exact hs.rowRd 10 rfl | exact hs.rowRd 11 rfl | exact hs.rowRd 12 rfl | exact hs.rowRd 13 rfl | exact Rd.st (by assumption) hs) (by first | exact hs.rowRd 0 rfl | exact hs.rowRd 1 rfl | exact hs.rowRd 2 rfl | exact hs.rowRd 3 rfl | exact hs.rowRd 4 rfl | exact hs.rowRd 5 rfl | exact hs.rowRd 6 rfl | exact hs.rowRd 7 rfl | exact hs.rowRd 8 rfl | exact hs.rowRd 9 rfl | exact hs.rowRd 10 rfl | exact hs.rowRd 11 rfl | exact hs.rowRd 12 rfl | exact hs.rowRd 13 rfl | exact Rd.st (by assumption) hs)) rfl rfl fun _ => ?_
  refine S_val rfl rfl (Y_move rfl) ?_
  refine S_call _ rfl rfl (bod rfl) (fun w hs => ndiv_any (x + y) m (max 32 32 + 1) 32 hsum (lt32 hm) (by omega) (by omega) _ _ _ (by first | exact hs.rowRd 0 rfl | exact hs.rowRd 1 rfl | exact hs.rowRd 2 rfl | exact hs.rowRd 3 rfl | exact hs.rowRd 4 rfl | exact hs.rowRd 5 rfl | exact hs.rowRd 6 rfl | exact hs.rowRd 7 rfl | exact hs.rowRd 8 rfl | exact hs.rowRd 9 rfl | exact hs.rowRd 10 rfl | exact hs.rowRd 11 rfl | exact hs.rowRd 12 rfl | exact hs.rowRd 13 rfl | exact Rd.st (by assumption) hs) (by first | exact hs.rowRd 0 rfl | exact hs.rowRd 1 rfl | exact hs.rowRd 2 rfl | exact hs.rowRd 3 rfl | exact hs.rowRd 4 rfl | exact hs.rowRd 5 rfl | exact hs.rowRd 6 rfl | exact hs.rowRd 7 rfl | exact hs.rowRd 8 rfl | exact hs.rowRd 9 rfl | exact hs.rowRd 10 rfl | exact hs.rowRd 11 rfl | exact hs.rowRd 12 rfl | exact hs.rowRd 13 rfl | exact Rd.st (by assumption) hs)) rfl rfl ?_
  rintro z N ⟨j1, r1, v1, v2, hr1, hrj1, hj1, rfl, rfl⟩
  have hr1' : r1 = remN (x + y) m := hr1
  subst hr1'
  refine S_val rfl rfl (Y_move rfl) ?_
  refine S_val rfl rfl (Y_extract rfl rfl) ?_
  refine S_val rfl rfl (Y_extract rfl rfl) ?_
  refine S_val rfl rfl (Y_assign rfl) ?_
  refine S_val rfl rfl (Y_assign rfl) ?_
  refine S_nil ?_
  refine X_seq ?_
  refine T_seq ?_
  refine T_region ?_
  refine S_val rfl rfl (Y_move rfl) ?_
  refine S_val rfl rfl (Y_move rfl) ?_
  refine S_callR _ rfl rfl (bod rfl) (fun w hs => ntimes_any x y 32 32 (lt32 hx) (lt32 hy) (by omega) (by omega) _ _ _ (by first | exact hs.rowRd 0 rfl | exact hs.rowRd 1 rfl | exact hs.rowRd 2 rfl | exact hs.rowRd 3 rfl | exact hs.rowRd 4 rfl | exact hs.rowRd 5 rfl | exact hs.rowRd 6 rfl | exact hs.rowRd 7 rfl | exact hs.rowRd 8 rfl | exact hs.rowRd 9 rfl | exact hs.rowRd 10 rfl | exact hs.rowRd 11 rfl | exact hs.rowRd 12 rfl | exact hs.rowRd 13 rfl | exact Rd.st (by assumption) hs) (by first | exact hs.rowRd 0 rfl | exact hs.rowRd 1 rfl | exact hs.rowRd 2 rfl | exact hs.rowRd 3 rfl | exact hs.rowRd 4 rfl | exact hs.rowRd 5 rfl | exact hs.rowRd 6 rfl | exact hs.rowRd 7 rfl | exact hs.rowRd 8 rfl | exact hs.rowRd 9 rfl | exact hs.rowRd 10 rfl | exact hs.rowRd 11 rfl | exact hs.rowRd 12 rfl | exact hs.rowRd 13 rfl | exact Rd.st (by assumption) hs)) rfl rfl fun _ => ?_
  refine S_val rfl rfl (Y_move rfl) ?_
  refine S_call _ rfl rfl (bod rfl) (fun w hs => ndiv_any (x * y) m (32 + 32 + 1) 32 hxy (lt32 hm) (by omega) (by omega) _ _ _ (by first | exact hs.rowRd 0 rfl | exact hs.rowRd 1 rfl | exact hs.rowRd 2 rfl | exact hs.rowRd 3 rfl | exact hs.rowRd 4 rfl | exact hs.rowRd 5 rfl | exact hs.rowRd 6 rfl | exact hs.rowRd 7 rfl | exact hs.rowRd 8 rfl | exact hs.rowRd 9 rfl | exact hs.rowRd 10 rfl | exact hs.rowRd 11 rfl | exact hs.rowRd 12 rfl | exact hs.rowRd 13 rfl | exact Rd.st (by assumption) hs) (by first | exact hs.rowRd 0 rfl | exact hs.rowRd 1 rfl | exact hs.rowRd 2 rfl | exact hs.rowRd 3 rfl | exact hs.rowRd 4 rfl | exact hs.rowRd 5 rfl | exact hs.rowRd 6 rfl | exact hs.rowRd 7 rfl | exact hs.rowRd 8 rfl | exact hs.rowRd 9 rfl | exact hs.rowRd 10 rfl | exact hs.rowRd 11 rfl | exact hs.rowRd 12 rfl | exact hs.rowRd 13 rfl | exact Rd.st (by assumption) hs)) rfl rfl ?_
  rintro z N ⟨j2, r2, v3, v4, hr2, hrj2, hj2, rfl, rfl⟩
  have hr2' : r2 = remN (x * y) m := hr2
  subst hr2'
  refine S_val rfl rfl (Y_move rfl) ?_
  refine S_val rfl rfl (Y_extract rfl rfl) ?_
  refine S_val rfl rfl (Y_extract rfl rfl) ?_
  refine S_val rfl rfl (Y_assign rfl) ?_
  refine S_val rfl rfl (Y_assign rfl) ?_
  refine S_nil ?_
  refine X_seq ?_
  refine T_seq ?_
  refine T_region ?_
  refine S_callV rfl rfl (bod rfl) (fun w hs => wfixed_any _) rfl rfl ?_
  refine S_val rfl rfl (Y_move rfl) ?_
  refine S_val rfl rfl (Y_loadAI 0 (und rfl) rfl rfl rfl (siz rfl) (dl_length _ _ _)) ?_
  refine S_val rfl rfl (Y_loadAI 1 (und rfl) rfl rfl rfl (siz rfl) (dl_length _ _ _)) ?_
  refine S_val rfl rfl (Y_loadAI 2 (und rfl) rfl rfl rfl (siz rfl) (dl_length _ _ _)) ?_
  refine S_callV rfl rfl (bod rfl) (fun w hs => addmod_any x y m hx hy hm _) rfl rfl ?_
  refine S_val rfl rfl (Y_move rfl) ?_
  refine S_callV rfl rfl (bod rfl) (fun w hs => nword_any (remN (x + y) m) j1 hrj1 _ _ (by first | exact hs.rowRd 0 rfl | exact hs.rowRd 1 rfl | exact hs.rowRd 2 rfl | exact hs.rowRd 3 rfl | exact hs.rowRd 4 rfl | exact hs.rowRd 5 rfl | exact hs.rowRd 6 rfl | exact hs.rowRd 7 rfl | exact hs.rowRd 8 rfl | exact hs.rowRd 9 rfl | exact hs.rowRd 10 rfl | exact hs.rowRd 11 rfl | exact hs.rowRd 12 rfl | exact hs.rowRd 13 rfl | exact Rd.st (by assumption) hs)) rfl rfl ?_
  refine S_val rfl rfl (Y_eqlA_t (eqg rfl) (und rfl) (und rfl) (siz rfl) rfl rfl (dl_length _ _ _) rfl) ?_
  refine S_val rfl rfl (Y_pick_t rfl rfl) ?_
  refine S_val rfl rfl (Y_move rfl) ?_
  refine S_val rfl rfl (Y_loadAI 0 (und rfl) rfl rfl rfl (siz rfl) (dl_length _ _ _)) ?_
  refine S_val rfl rfl (Y_loadAI 1 (und rfl) rfl rfl rfl (siz rfl) (dl_length _ _ _)) ?_
  refine S_val rfl rfl (Y_loadAI 2 (und rfl) rfl rfl rfl (siz rfl) (dl_length _ _ _)) ?_
  refine S_callV rfl rfl (bod rfl) (fun w hs => mulmod_any x y m hx hy hm _) rfl rfl ?_
  refine S_val rfl rfl (Y_move rfl) ?_
  refine S_callV rfl rfl (bod rfl) (fun w hs => nword_any (remN (x * y) m) j2 hrj2 _ _ (by first | exact hs.rowRd 0 rfl | exact hs.rowRd 1 rfl | exact hs.rowRd 2 rfl | exact hs.rowRd 3 rfl | exact hs.rowRd 4 rfl | exact hs.rowRd 5 rfl | exact hs.rowRd 6 rfl | exact hs.rowRd 7 rfl | exact hs.rowRd 8 rfl | exact hs.rowRd 9 rfl | exact hs.rowRd 10 rfl | exact hs.rowRd 11 rfl | exact hs.rowRd 12 rfl | exact hs.rowRd 13 rfl | exact Rd.st (by assumption) hs)) rfl rfl ?_
  refine S_val rfl rfl (Y_eqlA_t (eqg rfl) (und rfl) (und rfl) (siz rfl) rfl rfl (dl_length _ _ _) rfl) ?_
  refine S_val rfl rfl (Y_pick_t rfl rfl) ?_
  refine S_val rfl rfl (Y_assign rfl) ?_
  refine S_nil ?_
  refine X_seq ?_
  refine T_ret ?_
  ((first | refine X_fin_ret ?_ | refine X_fin ?_); exact ⟨[_], [], .cons (.tmp rfl) .nil, Emb.nil _, rfl, rfl⟩)
end Go.Proofs.Ytbedkgnkamaipaa
