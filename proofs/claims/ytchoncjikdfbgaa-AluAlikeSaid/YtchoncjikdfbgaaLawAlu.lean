import Derived.Test.YtchoncjikdfbgaaAlu2
import Derived.Test.YtchoncjikdfbgaaRef1
/- Package alu: the chapter's examples, and the laws AluFew and AluAlike. -/
namespace Go.Proofs.Ytchoncjikdfbgaa
open Go.RowKit
set_option maxRecDepth 20000
set_option maxHeartbeats 4000000

theorem Wv {n : Nat} (hn : n < 18446744073709551616) : (Value.agg (ints .u64 (fillI (List.replicate 4 0) [(0, (n : Int))]))) = W n := by unfold W; rw [w_of hn]
theorem w_lit5 : fillI (List.replicate 4 (0 : Int)) [(0, 5)] = dl 18446744073709551616 4 5 := w_of (n := 5) (by omega)
theorem w_lit7 : fillI (List.replicate 4 (0 : Int)) [(0, 7)] = dl 18446744073709551616 4 7 := w_of (n := 7) (by omega)
theorem w_lit8 : fillI (List.replicate 4 (0 : Int)) [(0, 8)] = dl 18446744073709551616 4 8 := w_of (n := 8) (by omega)
theorem w_lit1 : fillI (List.replicate 4 (0 : Int)) [(0, 1)] = dl 18446744073709551616 4 1 := w_of (n := 1) (by omega)
theorem w_lit2 : fillI (List.replicate 4 (0 : Int)) [(0, 2)] = dl 18446744073709551616 4 2 := w_of (n := 2) (by omega)
theorem w_lit256 : fillI (List.replicate 4 (0 : Int)) [(0, 256)] = dl 18446744073709551616 4 256 := w_of (n := 256) (by omega)
theorem d_two : (Value.agg (ints .i64 (fillI (List.replicate 32 0) [(0, 2)]))) = D 2 := by kernel_rfl
theorem afixed_any (w : World) : Fn Try.prog 45 #[] w fun v N => v = .bool true ∧ N = [] := by
  obtain ⟨M, hM⟩ : ∃ m, (5 + 2 ^ 256 - 7) % 2 ^ 256 = m := ⟨_, rfl⟩
  have d1 := do_sub 5 7 0 (by omega) (by omega)
  have d2 := do_shl 8 1 0 (by omega) (by omega)
  have d3 := do_lt 1 2 0 (by omega) (by omega)
  have ng := rneg_any 2 (by omega)
  rw [hM] at d1
  rw [show (2 ^ 256 - 2) % 2 ^ 256 = M by omega] at ng
  rw [show 1 * 2 ^ min 8 256 % 2 ^ 256 = 256 by decide +kernel] at d2
  rw [show bN (decide (1 < 2)) = 1 by decide] at d3
  rw [← d_two] at ng
  have e1 := w_lit1
  have e2 := w_lit256
  clear hM
  refine Fn_of (args := []) Try.func45 rfl Try.ntmps45 Try.results45 (by simp) ?_
  refine T_seq ?_
  refine T_region ?_
  refine S_val rfl rfl (Y_assign rfl) ?_
  refine S_nil ?_
  refine X_seq ?_
  refine T_seq ?_
  refine T_region ?_
  refine S_val rfl rfl (Y_build (und rfl) (siz rfl) (zer rfl) rfl rfl) ?_
  refine S_val rfl rfl (Y_build (und rfl) (siz rfl) (zer rfl) rfl rfl) ?_
  refine S_val rfl rfl (Y_build (und rfl) (siz rfl) (zer rfl) rfl rfl) ?_
  rw [w_lit5, w_lit7, w_zero]
  refine S_callV rfl rfl (bod rfl) (fun w hs => d1 _) rfl rfl ?_
  refine S_val rfl rfl (Y_move rfl) ?_
  refine S_val rfl rfl (Y_extract rfl rfl) ?_
  refine S_val rfl rfl (Y_extract rfl rfl) ?_
  refine S_allocA (zer rfl) rfl rfl fun _ => ?_
  refine S_storeAI 0 (siz rfl) rfl rfl rfl rfl (dl_length _ _ _) rfl ?_
  refine S_val rfl rfl (Y_assign rfl) ?_
  refine S_nil ?_
  refine X_seq ?_
  refine T_seq ?_
  refine T_region ?_
  refine S_val rfl rfl (Y_build (und rfl) (siz rfl) (zer rfl) rfl rfl) ?_
  refine S_val rfl rfl (Y_build (und rfl) (siz rfl) (zer rfl) rfl rfl) ?_
  refine S_val rfl rfl (Y_build (und rfl) (siz rfl) (zer rfl) rfl rfl) ?_
  rw [w_lit8, w_lit1, w_zero]
  refine S_callV rfl rfl (bod rfl) (fun w hs => d2 _) rfl rfl ?_
  refine S_val rfl rfl (Y_move rfl) ?_
  refine S_val rfl rfl (Y_extract rfl rfl) ?_
  refine S_val rfl rfl (Y_extract rfl rfl) ?_
  refine S_allocA (zer rfl) rfl rfl fun _ => ?_
  refine S_storeAI 1 (siz rfl) rfl rfl rfl rfl (dl_length _ _ _) rfl ?_
  refine S_val rfl rfl (Y_assign rfl) ?_
  refine S_nil ?_
  refine X_seq ?_
  refine T_seq ?_
  refine T_region ?_
  refine S_val rfl rfl (Y_build (und rfl) (siz rfl) (zer rfl) rfl rfl) ?_
  refine S_val rfl rfl (Y_build (und rfl) (siz rfl) (zer rfl) rfl rfl) ?_
  refine S_val rfl rfl (Y_build (und rfl) (siz rfl) (zer rfl) rfl rfl) ?_
  rw [w_lit1, w_lit2, w_zero]
  refine S_callV rfl rfl (bod rfl) (fun w hs => d3 _) rfl rfl ?_
  refine S_val rfl rfl (Y_move rfl) ?_
  refine S_val rfl rfl (Y_extract rfl rfl) ?_
  refine S_val rfl rfl (Y_extract rfl rfl) ?_
  refine S_allocA (zer rfl) rfl rfl fun _ => ?_
  refine S_storeAI 2 (siz rfl) rfl rfl rfl rfl (dl_length _ _ _) rfl ?_
  refine S_val rfl rfl (Y_assign rfl) ?_
  refine S_nil ?_
  refine X_seq ?_
  refine T_seq ?_
  refine T_draw (by kernel_rfl) (by kernel_rfl) rfl ?_
  refine D0_valM rfl rfl rfl (Y_loadAI 0 (und rfl) rfl rfl rfl (siz rfl) (dl_length _ _ _)) ?_
  refine D0_val rfl rfl rfl (Y_build (und rfl) (siz rfl) (zer rfl) rfl rfl) ?_
  refine D0_callV rfl rfl (bod rfl) (fun w hs => ng _) rfl rfl ?_
  skip
  refine D0_callV rfl rfl (bod rfl) (fun w hs => rword_any M _) rfl rfl ?_
  have e1' := e1.symm
  have e2' := e2.symm
  refine D0_val rfl rfl rfl (Y_eqlA_t (eqg rfl) (und rfl) (und rfl) (siz rfl) rfl rfl (dl_length _ _ _) rfl) ?_
  refine D0_val rfl rfl rfl (Y_move rfl) ?_
  refine D0_val rfl rfl rfl (Y_move rfl) ?_
  refine D0_val rfl rfl rfl (Y_pick_t rfl rfl) ?_
  refine D0_val rfl rfl rfl (Y_move rfl) ?_
  refine D0_valM rfl rfl rfl (Y_loadAI 1 (und rfl) rfl rfl rfl (siz rfl) (dl_length _ _ _)) ?_
  refine D0_val rfl rfl rfl (Y_build (und rfl) (siz rfl) (zer rfl) rfl rfl) ?_
  refine D0_val rfl rfl rfl (Y_eqlA_t (eqg rfl) (und rfl) (und rfl) (siz rfl) rfl rfl (dl_length _ _ _) rfl) ?_
  refine D0_val rfl rfl rfl (Y_pick_t rfl rfl) ?_
  refine D0_val rfl rfl rfl (Y_move rfl) ?_
  refine D0_val rfl rfl rfl (Y_move rfl) ?_
  refine D0_val rfl rfl rfl (Y_pick_t rfl rfl) ?_
  refine D0_val rfl rfl rfl (Y_move rfl) ?_
  refine D0_valM rfl rfl rfl (Y_loadAI 2 (und rfl) rfl rfl rfl (siz rfl) (dl_length _ _ _)) ?_
  refine D0_val rfl rfl rfl (Y_build (und rfl) (siz rfl) (zer rfl) rfl rfl) ?_
  refine D0_val rfl rfl rfl (Y_eqlA_t (eqg rfl) (und rfl) (und rfl) (siz rfl) rfl rfl (dl_length _ _ _) rfl) ?_
  refine D0_val rfl rfl rfl (Y_pick_t rfl rfl) ?_
  refine D0_val rfl rfl rfl (Y_move rfl) ?_
  refine D0_val rfl rfl rfl (Y_move rfl) ?_
  refine D0_val rfl rfl rfl (Y_pick_t rfl rfl) ?_
  refine D0_val rfl rfl rfl (Y_assign rfl) ?_
  refine D0_nil ?_
  refine X_seq ?_
  refine T_ret ?_
  ((first | refine X_fin_ret ?_ | refine X_fin ?_); exact ⟨[_], [], .cons (.tmp rfl) .nil, Emb.nil _, rfl, rfl⟩)
theorem few_do (op : Nat) : ∃ (f : Nat → Nat → Nat → Nat) (ok : Bool), (∀ a b c, a < 2 ^ 256 → b < 2 ^ 256 → c < 2 ^ 256 → ∀ w, Fn Try.prog 46 #[.int .u8 op, W a, W b, W c] w fun v N => v = .tuple #[W (f a b c), .bool ok] ∧ N = []) ∧
    (tkN op ≤ 2 → ∀ a b c d, f a b c = f a b d) ∧ (tkN op ≤ 1 → ∀ a b c d, f a b c = f a d c) := by
  rcases (show op = 1 ∨ op = 2 ∨ op = 3 ∨ op = 4 ∨ op = 5 ∨ op = 6 ∨ op = 7 ∨ op = 10 ∨ op = 11 ∨ op = 16 ∨ op = 17 ∨ op = 18 ∨ op = 19 ∨ op = 20 ∨ op = 21 ∨ op = 22 ∨ op = 23 ∨ op = 24 ∨ op = 25 ∨ op = 26 ∨ op = 27 ∨ op = 28 ∨ op = 29 ∨ op = 8 ∨ op = 9 ∨ notOp op by unfold notOp; omega) with rfl | rfl | rfl | rfl | rfl | rfl | rfl | rfl | rfl | rfl | rfl | rfl | rfl | rfl | rfl | rfl | rfl | rfl | rfl | rfl | rfl | rfl | rfl | rfl | rfl | h
  · exact ⟨fun a b _ => (a + b) % 2 ^ 256, true, fun a b c ha hb _ w => do_add a b c ha hb w, fun _ _ _ _ _ => rfl, fun h => absurd h (by decide)⟩
  · exact ⟨fun a b _ => a * b % 2 ^ 256, true, fun a b c ha hb _ w => do_mul a b c ha hb w, fun _ _ _ _ _ => rfl, fun h => absurd h (by decide)⟩
  · exact ⟨fun a b _ => (a + 2 ^ 256 - b) % 2 ^ 256, true, fun a b c ha hb _ w => do_sub a b c ha hb w, fun _ _ _ _ _ => rfl, fun h => absurd h (by decide)⟩
  · exact ⟨fun a b _ => a / b, true, fun a b c ha hb _ w => do_div a b c ha hb w, fun _ _ _ _ _ => rfl, fun h => absurd h (by decide)⟩
  · exact ⟨fun a b _ => sdq (sgn a) (sgn b) (absN a / absN b), true, fun a b c ha hb _ w => do_sdiv a b c ha hb w, fun _ _ _ _ _ => rfl, fun h => absurd h (by decide)⟩
  · exact ⟨fun a b _ => remN a b, true, fun a b c ha hb _ w => do_mod a b c ha hb w, fun _ _ _ _ _ => rfl, fun h => absurd h (by decide)⟩
  · exact ⟨fun a b _ => sdr (sgn a) (remN (absN a) (absN b)), true, fun a b c ha hb _ w => do_smod a b c ha hb w, fun _ _ _ _ _ => rfl, fun h => absurd h (by decide)⟩
  · exact ⟨fun a b _ => expN a b, true, fun a b c ha hb _ w => do_exp a b c ha hb w, fun _ _ _ _ _ => rfl, fun h => absurd h (by decide)⟩
  · exact ⟨fun a b _ => extN a b, true, fun a b c ha hb _ w => do_extend a b c ha hb w, fun _ _ _ _ _ => rfl, fun h => absurd h (by decide)⟩
  · exact ⟨fun a b _ => bN (decide (a < b)), true, fun a b c ha hb _ w => do_lt a b c ha hb w, fun _ _ _ _ _ => rfl, fun h => absurd h (by decide)⟩
  · exact ⟨fun a b _ => bN (decide (b < a)), true, fun a b c ha hb _ w => do_gt a b c ha hb w, fun _ _ _ _ _ => rfl, fun h => absurd h (by decide)⟩
  · exact ⟨fun a b _ => bN (slt a b), true, fun a b c ha hb _ w => do_slt a b c ha hb w, fun _ _ _ _ _ => rfl, fun h => absurd h (by decide)⟩
  · exact ⟨fun a b _ => bN (slt b a), true, fun a b c ha hb _ w => do_sgt a b c ha hb w, fun _ _ _ _ _ => rfl, fun h => absurd h (by decide)⟩
  · exact ⟨fun a b _ => bN (decide (a = b)), true, fun a b c ha hb _ w => do_eq a b c ha hb w, fun _ _ _ _ _ => rfl, fun h => absurd h (by decide)⟩
  · exact ⟨fun a b _ => bN (decide (a = 0)), true, fun a b c ha hb _ w => do_iszero a b c ha hb w, fun _ _ _ _ _ => rfl, fun _ _ _ _ _ => rfl⟩
  · exact ⟨fun a b _ => a &&& b, true, fun a b c ha hb _ w => do_and a b c ha hb w, fun _ _ _ _ _ => rfl, fun h => absurd h (by decide)⟩
  · exact ⟨fun a b _ => a ||| b, true, fun a b c ha hb _ w => do_or a b c ha hb w, fun _ _ _ _ _ => rfl, fun h => absurd h (by decide)⟩
  · exact ⟨fun a b _ => a ^^^ b, true, fun a b c ha hb _ w => do_xor a b c ha hb w, fun _ _ _ _ _ => rfl, fun h => absurd h (by decide)⟩
  · exact ⟨fun a b _ => 2 ^ 256 - 1 - a, true, fun a b c ha hb _ w => do_not a b c ha hb w, fun _ _ _ _ _ => rfl, fun _ _ _ _ _ => rfl⟩
  · exact ⟨fun a b _ => if a < 32 then b / 256 ^ (31 - a) % 256 else 0, true, fun a b c ha hb _ w => do_byte a b c ha hb w, fun _ _ _ _ _ => rfl, fun h => absurd h (by decide)⟩
  · exact ⟨fun a b _ => b * 2 ^ min a 256 % 2 ^ 256, true, fun a b c ha hb _ w => do_shl a b c ha hb w, fun _ _ _ _ _ => rfl, fun h => absurd h (by decide)⟩
  · exact ⟨fun a b _ => b / 2 ^ min a 256, true, fun a b c ha hb _ w => do_shr a b c ha hb w, fun _ _ _ _ _ => rfl, fun h => absurd h (by decide)⟩
  · exact ⟨fun a b _ => sarN b (min a 256), true, fun a b c ha hb _ w => do_sar a b c ha hb w, fun _ _ _ _ _ => rfl, fun h => absurd h (by decide)⟩
  · exact ⟨fun a b c => remN (a + b) c, true, fun a b c ha hb hc w => do_addmod a b c ha hb hc w, fun h => absurd h (by decide), fun h => absurd h (by decide)⟩
  · exact ⟨fun a b c => remN (a * b) c, true, fun a b c ha hb hc w => do_mulmod a b c ha hb hc w, fun h => absurd h (by decide), fun h => absurd h (by decide)⟩
  · exact ⟨fun _ _ _ => 0, false, fun a b c _ _ _ w => do_none op a b c h w, fun _ _ _ _ _ => rfl, fun _ _ _ _ _ => rfl⟩
theorem aluFew_law (op : Nat) (_hop : op < 256) (a : Nat) (ha : a < 2 ^ 256) (b : Nat) (hb : b < 2 ^ 256) (c : Nat) (hc : c < 2 ^ 256) (d : Nat) (hd : d < 2 ^ 256) (w : World) :
    Fn Try.prog 12 #[.int .u8 op, W a, W b, W c, W d] w fun v N => v = .bool true ∧ N = [] := by
  obtain ⟨f, ok, h1, h2, h3⟩ := few_do op
  have d1 := h1 a b c ha hb hc
  have d2 := h1 a b d ha hb hd
  have d3 := h1 a d c ha hd hc
  by_cases n1 : tkN op ≤ 1
  · have e1 := h2 (by omega) a b d c
    have e2 := h3 n1 a d c b
    rw [e1] at d2
    rw [e2] at d3
    generalize f a b c = x at *
    clear h1 h2 h3 e1 e2 ha hb hc hd
    refine Fn_of (args := [.int .u8 op, W a, W b, W c, W d]) Try.func12 rfl Try.ntmps12 Try.results12 (by simp) ?_
    refine T_seq ?_
    refine T_region ?_
    refine S_boxA rfl rfl rfl fun _ => ?_
    refine S_boxA rfl rfl rfl fun _ => ?_
    refine S_boxA rfl rfl rfl fun _ => ?_
    refine S_boxA rfl rfl rfl fun _ => ?_
    refine S_val rfl rfl (Y_assign rfl) ?_
    refine S_nil ?_
    refine X_seq ?_
    refine T_seq ?_
    refine T_region ?_
    refine S_val rfl rfl (Y_move rfl) ?_
    refine S_val rfl rfl (Y_loadAI 0 (und rfl) rfl rfl rfl (siz rfl) (dl_length _ _ _)) ?_
    refine S_val rfl rfl (Y_loadAI 1 (und rfl) rfl rfl rfl (siz rfl) (dl_length _ _ _)) ?_
    refine S_val rfl rfl (Y_loadAI 2 (und rfl) rfl rfl rfl (siz rfl) (dl_length _ _ _)) ?_
    refine S_callV rfl rfl (bod rfl) (fun w hs => d1 _) rfl rfl ?_
    refine S_val rfl rfl (Y_move rfl) ?_
    refine S_val rfl rfl (Y_extract rfl rfl) ?_
    refine S_val rfl rfl (Y_extract rfl rfl) ?_
    refine S_allocA (zer rfl) rfl rfl fun _ => ?_
    refine S_storeAI 4 (siz rfl) rfl rfl rfl rfl (dl_length _ _ _) rfl ?_
    refine S_val rfl rfl (Y_assign rfl) ?_
    refine S_nil ?_
    refine X_seq ?_
    refine T_seq ?_
    refine T_region ?_
    refine S_val rfl rfl (Y_move rfl) ?_
    refine S_val rfl rfl (Y_loadAI 0 (und rfl) rfl rfl rfl (siz rfl) (dl_length _ _ _)) ?_
    refine S_val rfl rfl (Y_loadAI 1 (und rfl) rfl rfl rfl (siz rfl) (dl_length _ _ _)) ?_
    refine S_val rfl rfl (Y_loadAI 3 (und rfl) rfl rfl rfl (siz rfl) (dl_length _ _ _)) ?_
    refine S_callV rfl rfl (bod rfl) (fun w hs => d2 _) rfl rfl ?_
    refine S_val rfl rfl (Y_move rfl) ?_
    refine S_val rfl rfl (Y_extract rfl rfl) ?_
    refine S_val rfl rfl (Y_extract rfl rfl) ?_
    refine S_allocA (zer rfl) rfl rfl fun _ => ?_
    refine S_storeAI 5 (siz rfl) rfl rfl rfl rfl (dl_length _ _ _) rfl ?_
    refine S_val rfl rfl (Y_assign rfl) ?_
    refine S_nil ?_
    refine X_seq ?_
    refine T_seq ?_
    refine T_region ?_
    refine S_val rfl rfl (Y_move rfl) ?_
    refine S_val rfl rfl (Y_loadAI 0 (und rfl) rfl rfl rfl (siz rfl) (dl_length _ _ _)) ?_
    refine S_val rfl rfl (Y_loadAI 3 (und rfl) rfl rfl rfl (siz rfl) (dl_length _ _ _)) ?_
    refine S_val rfl rfl (Y_loadAI 2 (und rfl) rfl rfl rfl (siz rfl) (dl_length _ _ _)) ?_
    refine S_callV rfl rfl (bod rfl) (fun w hs => d3 _) rfl rfl ?_
    refine S_val rfl rfl (Y_move rfl) ?_
    refine S_val rfl rfl (Y_extract rfl rfl) ?_
    refine S_val rfl rfl (Y_extract rfl rfl) ?_
    refine S_allocA (zer rfl) rfl rfl fun _ => ?_
    refine S_storeAI 6 (siz rfl) rfl rfl rfl rfl (dl_length _ _ _) rfl ?_
    refine S_val rfl rfl (Y_assign rfl) ?_
    refine S_nil ?_
    refine X_seq ?_
    refine T_seq ?_
    refine T_region ?_
    refine S_val rfl rfl (Y_move rfl) ?_
    refine S_callV rfl rfl (bod rfl) (fun w hs => takes_any op _) rfl rfl ?_
    refine S_val rfl rfl (Y_assign rfl) ?_
    refine S_nil ?_
    refine X_seq ?_
    refine T_seq ?_
    refine T_region ?_
    refine S_callV rfl rfl (bod rfl) (fun w hs => afixed_any _) rfl rfl ?_
    refine S_val rfl rfl (Y_move rfl) ?_
    refine S_val rfl rfl (Y_move rfl) ?_
    refine S_val rfl rfl (Y_gtr_f rfl rfl (by omega)) ?_
    refine S_val rfl rfl (Y_move rfl) ?_
    refine S_val rfl rfl (Y_loadAI 4 (und rfl) rfl rfl rfl (siz rfl) (dl_length _ _ _)) ?_
    refine S_val rfl rfl (Y_loadAI 5 (und rfl) rfl rfl rfl (siz rfl) (dl_length _ _ _)) ?_
    refine S_val rfl rfl (Y_eqlA_t (eqg rfl) (und rfl) (und rfl) (siz rfl) rfl rfl (dl_length _ _ _) rfl) ?_
    refine S_val rfl rfl (Y_pick_f rfl rfl) ?_
    refine S_val rfl rfl (Y_pick_t rfl rfl) ?_
    refine S_val rfl rfl (Y_move rfl) ?_
    refine S_val rfl rfl (Y_move rfl) ?_
    refine S_val rfl rfl (Y_gtr_f rfl rfl (by omega)) ?_
    refine S_val rfl rfl (Y_move rfl) ?_
    refine S_val rfl rfl (Y_loadAI 4 (und rfl) rfl rfl rfl (siz rfl) (dl_length _ _ _)) ?_
    refine S_val rfl rfl (Y_loadAI 6 (und rfl) rfl rfl rfl (siz rfl) (dl_length _ _ _)) ?_
    refine S_val rfl rfl (Y_eqlA_t (eqg rfl) (und rfl) (und rfl) (siz rfl) rfl rfl (dl_length _ _ _) rfl) ?_
    refine S_val rfl rfl (Y_pick_f rfl rfl) ?_
    refine S_val rfl rfl (Y_pick_t rfl rfl) ?_
    refine S_val rfl rfl (Y_assign rfl) ?_
    refine S_nil ?_
    refine X_seq ?_
    refine T_ret ?_
    ((first | refine X_fin_ret ?_ | refine X_fin ?_); exact ⟨[_], [], .cons (.tmp rfl) .nil, Emb.nil _, rfl, rfl⟩)
  · by_cases n2 : tkN op ≤ 2
    · have e1 := h2 n2 a b d c
      rw [e1] at d2
      generalize f a d c = z at *
      generalize f a b c = x at *
      clear h1 h2 h3 e1 ha hb hc hd
      refine Fn_of (args := [.int .u8 op, W a, W b, W c, W d]) Try.func12 rfl Try.ntmps12 Try.results12 (by simp) ?_
      refine T_seq ?_
      refine T_region ?_
      refine S_boxA rfl rfl rfl fun _ => ?_
      refine S_boxA rfl rfl rfl fun _ => ?_
      refine S_boxA rfl rfl rfl fun _ => ?_
      refine S_boxA rfl rfl rfl fun _ => ?_
      refine S_val rfl rfl (Y_assign rfl) ?_
      refine S_nil ?_
      refine X_seq ?_
      refine T_seq ?_
      refine T_region ?_
      refine S_val rfl rfl (Y_move rfl) ?_
      refine S_val rfl rfl (Y_loadAI 0 (und rfl) rfl rfl rfl (siz rfl) (dl_length _ _ _)) ?_
      refine S_val rfl rfl (Y_loadAI 1 (und rfl) rfl rfl rfl (siz rfl) (dl_length _ _ _)) ?_
      refine S_val rfl rfl (Y_loadAI 2 (und rfl) rfl rfl rfl (siz rfl) (dl_length _ _ _)) ?_
      refine S_callV rfl rfl (bod rfl) (fun w hs => d1 _) rfl rfl ?_
      refine S_val rfl rfl (Y_move rfl) ?_
      refine S_val rfl rfl (Y_extract rfl rfl) ?_
      refine S_val rfl rfl (Y_extract rfl rfl) ?_
      refine S_allocA (zer rfl) rfl rfl fun _ => ?_
      refine S_storeAI 4 (siz rfl) rfl rfl rfl rfl (dl_length _ _ _) rfl ?_
      refine S_val rfl rfl (Y_assign rfl) ?_
      refine S_nil ?_
      refine X_seq ?_
      refine T_seq ?_
      refine T_region ?_
      refine S_val rfl rfl (Y_move rfl) ?_
      refine S_val rfl rfl (Y_loadAI 0 (und rfl) rfl rfl rfl (siz rfl) (dl_length _ _ _)) ?_
      refine S_val rfl rfl (Y_loadAI 1 (und rfl) rfl rfl rfl (siz rfl) (dl_length _ _ _)) ?_
      refine S_val rfl rfl (Y_loadAI 3 (und rfl) rfl rfl rfl (siz rfl) (dl_length _ _ _)) ?_
      refine S_callV rfl rfl (bod rfl) (fun w hs => d2 _) rfl rfl ?_
      refine S_val rfl rfl (Y_move rfl) ?_
      refine S_val rfl rfl (Y_extract rfl rfl) ?_
      refine S_val rfl rfl (Y_extract rfl rfl) ?_
      refine S_allocA (zer rfl) rfl rfl fun _ => ?_
      refine S_storeAI 5 (siz rfl) rfl rfl rfl rfl (dl_length _ _ _) rfl ?_
      refine S_val rfl rfl (Y_assign rfl) ?_
      refine S_nil ?_
      refine X_seq ?_
      refine T_seq ?_
      refine T_region ?_
      refine S_val rfl rfl (Y_move rfl) ?_
      refine S_val rfl rfl (Y_loadAI 0 (und rfl) rfl rfl rfl (siz rfl) (dl_length _ _ _)) ?_
      refine S_val rfl rfl (Y_loadAI 3 (und rfl) rfl rfl rfl (siz rfl) (dl_length _ _ _)) ?_
      refine S_val rfl rfl (Y_loadAI 2 (und rfl) rfl rfl rfl (siz rfl) (dl_length _ _ _)) ?_
      refine S_callV rfl rfl (bod rfl) (fun w hs => d3 _) rfl rfl ?_
      refine S_val rfl rfl (Y_move rfl) ?_
      refine S_val rfl rfl (Y_extract rfl rfl) ?_
      refine S_val rfl rfl (Y_extract rfl rfl) ?_
      refine S_allocA (zer rfl) rfl rfl fun _ => ?_
      refine S_storeAI 6 (siz rfl) rfl rfl rfl rfl (dl_length _ _ _) rfl ?_
      refine S_val rfl rfl (Y_assign rfl) ?_
      refine S_nil ?_
      refine X_seq ?_
      refine T_seq ?_
      refine T_region ?_
      refine S_val rfl rfl (Y_move rfl) ?_
      refine S_callV rfl rfl (bod rfl) (fun w hs => takes_any op _) rfl rfl ?_
      refine S_val rfl rfl (Y_assign rfl) ?_
      refine S_nil ?_
      refine X_seq ?_
      refine T_seq ?_
      refine T_region ?_
      refine S_callV rfl rfl (bod rfl) (fun w hs => afixed_any _) rfl rfl ?_
      refine S_val rfl rfl (Y_move rfl) ?_
      refine S_val rfl rfl (Y_move rfl) ?_
      refine S_val rfl rfl (Y_gtr_f rfl rfl (by omega)) ?_
      refine S_val rfl rfl (Y_move rfl) ?_
      refine S_val rfl rfl (Y_loadAI 4 (und rfl) rfl rfl rfl (siz rfl) (dl_length _ _ _)) ?_
      refine S_val rfl rfl (Y_loadAI 5 (und rfl) rfl rfl rfl (siz rfl) (dl_length _ _ _)) ?_
      refine S_val rfl rfl (Y_eqlA_t (eqg rfl) (und rfl) (und rfl) (siz rfl) rfl rfl (dl_length _ _ _) rfl) ?_
      refine S_val rfl rfl (Y_pick_f rfl rfl) ?_
      refine S_val rfl rfl (Y_pick_t rfl rfl) ?_
      refine S_val rfl rfl (Y_move rfl) ?_
      refine S_val rfl rfl (Y_move rfl) ?_
      refine S_val rfl rfl (Y_gtr_t rfl rfl (by omega)) ?_
      refine S_val rfl rfl (Y_move rfl) ?_
      refine S_skip rfl rfl ?_
      refine S_skip rfl rfl ?_
      refine S_skip rfl rfl ?_
      refine S_val rfl rfl (Y_pick_t rfl rfl) ?_
      refine S_val rfl rfl (Y_pick_t rfl rfl) ?_
      refine S_val rfl rfl (Y_assign rfl) ?_
      refine S_nil ?_
      refine X_seq ?_
      refine T_ret ?_
      ((first | refine X_fin_ret ?_ | refine X_fin ?_); exact ⟨[_], [], .cons (.tmp rfl) .nil, Emb.nil _, rfl, rfl⟩)
    · generalize f a d c = z at *
      generalize f a b d = y at *
      generalize f a b c = x at *
      clear h1 h2 h3 ha hb hc hd
      refine Fn_of (args := [.int .u8 op, W a, W b, W c, W d]) Try.func12 rfl Try.ntmps12 Try.results12 (by simp) ?_
      refine T_seq ?_
      refine T_region ?_
      refine S_boxA rfl rfl rfl fun _ => ?_
      refine S_boxA rfl rfl rfl fun _ => ?_
      refine S_boxA rfl rfl rfl fun _ => ?_
      refine S_boxA rfl rfl rfl fun _ => ?_
      refine S_val rfl rfl (Y_assign rfl) ?_
      refine S_nil ?_
      refine X_seq ?_
      refine T_seq ?_
      refine T_region ?_
      refine S_val rfl rfl (Y_move rfl) ?_
      refine S_val rfl rfl (Y_loadAI 0 (und rfl) rfl rfl rfl (siz rfl) (dl_length _ _ _)) ?_
      refine S_val rfl rfl (Y_loadAI 1 (und rfl) rfl rfl rfl (siz rfl) (dl_length _ _ _)) ?_
      refine S_val rfl rfl (Y_loadAI 2 (und rfl) rfl rfl rfl (siz rfl) (dl_length _ _ _)) ?_
      refine S_callV rfl rfl (bod rfl) (fun w hs => d1 _) rfl rfl ?_
      refine S_val rfl rfl (Y_move rfl) ?_
      refine S_val rfl rfl (Y_extract rfl rfl) ?_
      refine S_val rfl rfl (Y_extract rfl rfl) ?_
      refine S_allocA (zer rfl) rfl rfl fun _ => ?_
      refine S_storeAI 4 (siz rfl) rfl rfl rfl rfl (dl_length _ _ _) rfl ?_
      refine S_val rfl rfl (Y_assign rfl) ?_
      refine S_nil ?_
      refine X_seq ?_
      refine T_seq ?_
      refine T_region ?_
      refine S_val rfl rfl (Y_move rfl) ?_
      refine S_val rfl rfl (Y_loadAI 0 (und rfl) rfl rfl rfl (siz rfl) (dl_length _ _ _)) ?_
      refine S_val rfl rfl (Y_loadAI 1 (und rfl) rfl rfl rfl (siz rfl) (dl_length _ _ _)) ?_
      refine S_val rfl rfl (Y_loadAI 3 (und rfl) rfl rfl rfl (siz rfl) (dl_length _ _ _)) ?_
      refine S_callV rfl rfl (bod rfl) (fun w hs => d2 _) rfl rfl ?_
      refine S_val rfl rfl (Y_move rfl) ?_
      refine S_val rfl rfl (Y_extract rfl rfl) ?_
      refine S_val rfl rfl (Y_extract rfl rfl) ?_
      refine S_allocA (zer rfl) rfl rfl fun _ => ?_
      refine S_storeAI 5 (siz rfl) rfl rfl rfl rfl (dl_length _ _ _) rfl ?_
      refine S_val rfl rfl (Y_assign rfl) ?_
      refine S_nil ?_
      refine X_seq ?_
      refine T_seq ?_
      refine T_region ?_
      refine S_val rfl rfl (Y_move rfl) ?_
      refine S_val rfl rfl (Y_loadAI 0 (und rfl) rfl rfl rfl (siz rfl) (dl_length _ _ _)) ?_
      refine S_val rfl rfl (Y_loadAI 3 (und rfl) rfl rfl rfl (siz rfl) (dl_length _ _ _)) ?_
      refine S_val rfl rfl (Y_loadAI 2 (und rfl) rfl rfl rfl (siz rfl) (dl_length _ _ _)) ?_
      refine S_callV rfl rfl (bod rfl) (fun w hs => d3 _) rfl rfl ?_
      refine S_val rfl rfl (Y_move rfl) ?_
      refine S_val rfl rfl (Y_extract rfl rfl) ?_
      refine S_val rfl rfl (Y_extract rfl rfl) ?_
      refine S_allocA (zer rfl) rfl rfl fun _ => ?_
      refine S_storeAI 6 (siz rfl) rfl rfl rfl rfl (dl_length _ _ _) rfl ?_
      refine S_val rfl rfl (Y_assign rfl) ?_
      refine S_nil ?_
      refine X_seq ?_
      refine T_seq ?_
      refine T_region ?_
      refine S_val rfl rfl (Y_move rfl) ?_
      refine S_callV rfl rfl (bod rfl) (fun w hs => takes_any op _) rfl rfl ?_
      refine S_val rfl rfl (Y_assign rfl) ?_
      refine S_nil ?_
      refine X_seq ?_
      refine T_seq ?_
      refine T_region ?_
      refine S_callV rfl rfl (bod rfl) (fun w hs => afixed_any _) rfl rfl ?_
      refine S_val rfl rfl (Y_move rfl) ?_
      refine S_val rfl rfl (Y_move rfl) ?_
      refine S_val rfl rfl (Y_gtr_t rfl rfl (by omega)) ?_
      refine S_val rfl rfl (Y_move rfl) ?_
      refine S_skip rfl rfl ?_
      refine S_skip rfl rfl ?_
      refine S_skip rfl rfl ?_
      refine S_val rfl rfl (Y_pick_t rfl rfl) ?_
      refine S_val rfl rfl (Y_pick_t rfl rfl) ?_
      refine S_val rfl rfl (Y_move rfl) ?_
      refine S_val rfl rfl (Y_move rfl) ?_
      refine S_val rfl rfl (Y_gtr_t rfl rfl (by omega)) ?_
      refine S_val rfl rfl (Y_move rfl) ?_
      refine S_skip rfl rfl ?_
      refine S_skip rfl rfl ?_
      refine S_skip rfl rfl ?_
      refine S_val rfl rfl (Y_pick_t rfl rfl) ?_
      refine S_val rfl rfl (Y_pick_t rfl rfl) ?_
      refine S_val rfl rfl (Y_assign rfl) ?_
      refine S_nil ?_
      refine X_seq ?_
      refine T_ret ?_
      ((first | refine X_fin_ret ?_ | refine X_fin ?_); exact ⟨[_], [], .cons (.tmp rfl) .nil, Emb.nil _, rfl, rfl⟩)
theorem ldo_add (a b : Nat) (ha : a < 2 ^ 256) (hb : b < 2 ^ 256) (w : World) : Fn Try.prog 44 #[.int .u8 1, W a, W b] w fun v N => v = W ((a + b) % 2 ^ 256) ∧ N = [] := by
  have ct := do_add a b 0 ha hb
  generalize hz : ((a + b) % 2 ^ 256) = z at *
  clear hz
  refine Fn_of (args := [.int .u8 1, W a, W b]) Try.func44 rfl Try.ntmps44 Try.results44 (by simp) ?_
  refine T_seq ?_
  refine T_region ?_
  refine S_boxA rfl rfl rfl fun _ => ?_
  refine S_boxA rfl rfl rfl fun _ => ?_
  refine S_allocA (zer rfl) rfl rfl fun _ => ?_
  refine S_nil ?_
  refine X_seq ?_
  refine T_seq ?_
  refine T_region ?_
  refine S_val rfl rfl (Y_move rfl) ?_
  refine S_val rfl rfl (Y_loadAI 0 (und rfl) rfl rfl rfl (siz rfl) (dl_length _ _ _)) ?_
  refine S_val rfl rfl (Y_loadAI 1 (und rfl) rfl rfl rfl (siz rfl) (dl_length _ _ _)) ?_
  refine S_val rfl rfl (Y_build (und rfl) (siz rfl) (zer rfl) rfl rfl) ?_
  rw [w_zero]
  refine S_callV rfl rfl (bod rfl) (fun w hs => ct _) rfl rfl ?_
  refine S_val rfl rfl (Y_move rfl) ?_
  refine S_val rfl rfl (Y_extract rfl rfl) ?_
  refine S_val rfl rfl (Y_extract rfl rfl) ?_
  refine S_allocA (zer rfl) rfl rfl fun _ => ?_
  refine S_storeAI 3 (siz rfl) rfl rfl rfl rfl (dl_length _ _ _) rfl ?_
  refine S_val rfl rfl (Y_assign rfl) ?_
  refine S_nil ?_
  refine X_seq ?_
  refine T_seq ?_
  refine T_region ?_
  refine S_val rfl rfl (Y_loadAI 3 (und rfl) rfl rfl rfl (siz rfl) (dl_length _ _ _)) ?_
  refine S_storeAI 2 (siz rfl) rfl rfl rfl rfl (dl_length _ _ _) rfl ?_
  refine S_nil ?_
  refine X_seq ?_
  refine T_ret ?_
  ((first | refine X_fin_ret ?_ | refine X_fin ?_); exact ⟨[_], [], .cons (.agg 2 rfl (und rfl) rfl rfl (siz rfl)) .nil, Emb.nil _, rfl, rfl⟩)
theorem ldo_mul (a b : Nat) (ha : a < 2 ^ 256) (hb : b < 2 ^ 256) (w : World) : Fn Try.prog 44 #[.int .u8 2, W a, W b] w fun v N => v = W (a * b % 2 ^ 256) ∧ N = [] := by
  have ct := do_mul a b 0 ha hb
  generalize hz : (a * b % 2 ^ 256) = z at *
  clear hz
  refine Fn_of (args := [.int .u8 2, W a, W b]) Try.func44 rfl Try.ntmps44 Try.results44 (by simp) ?_
  refine T_seq ?_
  refine T_region ?_
  refine S_boxA rfl rfl rfl fun _ => ?_
  refine S_boxA rfl rfl rfl fun _ => ?_
  refine S_allocA (zer rfl) rfl rfl fun _ => ?_
  refine S_nil ?_
  refine X_seq ?_
  refine T_seq ?_
  refine T_region ?_
  refine S_val rfl rfl (Y_move rfl) ?_
  refine S_val rfl rfl (Y_loadAI 0 (und rfl) rfl rfl rfl (siz rfl) (dl_length _ _ _)) ?_
  refine S_val rfl rfl (Y_loadAI 1 (und rfl) rfl rfl rfl (siz rfl) (dl_length _ _ _)) ?_
  refine S_val rfl rfl (Y_build (und rfl) (siz rfl) (zer rfl) rfl rfl) ?_
  rw [w_zero]
  refine S_callV rfl rfl (bod rfl) (fun w hs => ct _) rfl rfl ?_
  refine S_val rfl rfl (Y_move rfl) ?_
  refine S_val rfl rfl (Y_extract rfl rfl) ?_
  refine S_val rfl rfl (Y_extract rfl rfl) ?_
  refine S_allocA (zer rfl) rfl rfl fun _ => ?_
  refine S_storeAI 3 (siz rfl) rfl rfl rfl rfl (dl_length _ _ _) rfl ?_
  refine S_val rfl rfl (Y_assign rfl) ?_
  refine S_nil ?_
  refine X_seq ?_
  refine T_seq ?_
  refine T_region ?_
  refine S_val rfl rfl (Y_loadAI 3 (und rfl) rfl rfl rfl (siz rfl) (dl_length _ _ _)) ?_
  refine S_storeAI 2 (siz rfl) rfl rfl rfl rfl (dl_length _ _ _) rfl ?_
  refine S_nil ?_
  refine X_seq ?_
  refine T_ret ?_
  ((first | refine X_fin_ret ?_ | refine X_fin ?_); exact ⟨[_], [], .cons (.agg 2 rfl (und rfl) rfl rfl (siz rfl)) .nil, Emb.nil _, rfl, rfl⟩)
theorem ldo_sub (a b : Nat) (ha : a < 2 ^ 256) (hb : b < 2 ^ 256) (w : World) : Fn Try.prog 44 #[.int .u8 3, W a, W b] w fun v N => v = W ((a + 2 ^ 256 - b) % 2 ^ 256) ∧ N = [] := by
  have ct := do_sub a b 0 ha hb
  generalize hz : ((a + 2 ^ 256 - b) % 2 ^ 256) = z at *
  clear hz
  refine Fn_of (args := [.int .u8 3, W a, W b]) Try.func44 rfl Try.ntmps44 Try.results44 (by simp) ?_
  refine T_seq ?_
  refine T_region ?_
  refine S_boxA rfl rfl rfl fun _ => ?_
  refine S_boxA rfl rfl rfl fun _ => ?_
  refine S_allocA (zer rfl) rfl rfl fun _ => ?_
  refine S_nil ?_
  refine X_seq ?_
  refine T_seq ?_
  refine T_region ?_
  refine S_val rfl rfl (Y_move rfl) ?_
  refine S_val rfl rfl (Y_loadAI 0 (und rfl) rfl rfl rfl (siz rfl) (dl_length _ _ _)) ?_
  refine S_val rfl rfl (Y_loadAI 1 (und rfl) rfl rfl rfl (siz rfl) (dl_length _ _ _)) ?_
  refine S_val rfl rfl (Y_build (und rfl) (siz rfl) (zer rfl) rfl rfl) ?_
  rw [w_zero]
  refine S_callV rfl rfl (bod rfl) (fun w hs => ct _) rfl rfl ?_
  refine S_val rfl rfl (Y_move rfl) ?_
  refine S_val rfl rfl (Y_extract rfl rfl) ?_
  refine S_val rfl rfl (Y_extract rfl rfl) ?_
  refine S_allocA (zer rfl) rfl rfl fun _ => ?_
  refine S_storeAI 3 (siz rfl) rfl rfl rfl rfl (dl_length _ _ _) rfl ?_
  refine S_val rfl rfl (Y_assign rfl) ?_
  refine S_nil ?_
  refine X_seq ?_
  refine T_seq ?_
  refine T_region ?_
  refine S_val rfl rfl (Y_loadAI 3 (und rfl) rfl rfl rfl (siz rfl) (dl_length _ _ _)) ?_
  refine S_storeAI 2 (siz rfl) rfl rfl rfl rfl (dl_length _ _ _) rfl ?_
  refine S_nil ?_
  refine X_seq ?_
  refine T_ret ?_
  ((first | refine X_fin_ret ?_ | refine X_fin ?_); exact ⟨[_], [], .cons (.agg 2 rfl (und rfl) rfl rfl (siz rfl)) .nil, Emb.nil _, rfl, rfl⟩)
theorem ldo_div (a b : Nat) (ha : a < 2 ^ 256) (hb : b < 2 ^ 256) (w : World) : Fn Try.prog 44 #[.int .u8 4, W a, W b] w fun v N => v = W (a / b) ∧ N = [] := by
  have ct := do_div a b 0 ha hb
  generalize hz : (a / b) = z at *
  clear hz
  refine Fn_of (args := [.int .u8 4, W a, W b]) Try.func44 rfl Try.ntmps44 Try.results44 (by simp) ?_
  refine T_seq ?_
  refine T_region ?_
  refine S_boxA rfl rfl rfl fun _ => ?_
  refine S_boxA rfl rfl rfl fun _ => ?_
  refine S_allocA (zer rfl) rfl rfl fun _ => ?_
  refine S_nil ?_
  refine X_seq ?_
  refine T_seq ?_
  refine T_region ?_
  refine S_val rfl rfl (Y_move rfl) ?_
  refine S_val rfl rfl (Y_loadAI 0 (und rfl) rfl rfl rfl (siz rfl) (dl_length _ _ _)) ?_
  refine S_val rfl rfl (Y_loadAI 1 (und rfl) rfl rfl rfl (siz rfl) (dl_length _ _ _)) ?_
  refine S_val rfl rfl (Y_build (und rfl) (siz rfl) (zer rfl) rfl rfl) ?_
  rw [w_zero]
  refine S_callV rfl rfl (bod rfl) (fun w hs => ct _) rfl rfl ?_
  refine S_val rfl rfl (Y_move rfl) ?_
  refine S_val rfl rfl (Y_extract rfl rfl) ?_
  refine S_val rfl rfl (Y_extract rfl rfl) ?_
  refine S_allocA (zer rfl) rfl rfl fun _ => ?_
  refine S_storeAI 3 (siz rfl) rfl rfl rfl rfl (dl_length _ _ _) rfl ?_
  refine S_val rfl rfl (Y_assign rfl) ?_
  refine S_nil ?_
  refine X_seq ?_
  refine T_seq ?_
  refine T_region ?_
  refine S_val rfl rfl (Y_loadAI 3 (und rfl) rfl rfl rfl (siz rfl) (dl_length _ _ _)) ?_
  refine S_storeAI 2 (siz rfl) rfl rfl rfl rfl (dl_length _ _ _) rfl ?_
  refine S_nil ?_
  refine X_seq ?_
  refine T_ret ?_
  ((first | refine X_fin_ret ?_ | refine X_fin ?_); exact ⟨[_], [], .cons (.agg 2 rfl (und rfl) rfl rfl (siz rfl)) .nil, Emb.nil _, rfl, rfl⟩)
theorem ldo_exp (a b : Nat) (ha : a < 2 ^ 256) (hb : b < 2 ^ 256) (w : World) : Fn Try.prog 44 #[.int .u8 10, W a, W b] w fun v N => v = W (expN a b) ∧ N = [] := by
  have ct := do_exp a b 0 ha hb
  generalize hz : (expN a b) = z at *
  clear hz
  refine Fn_of (args := [.int .u8 10, W a, W b]) Try.func44 rfl Try.ntmps44 Try.results44 (by simp) ?_
  refine T_seq ?_
  refine T_region ?_
  refine S_boxA rfl rfl rfl fun _ => ?_
  refine S_boxA rfl rfl rfl fun _ => ?_
  refine S_allocA (zer rfl) rfl rfl fun _ => ?_
  refine S_nil ?_
  refine X_seq ?_
  refine T_seq ?_
  refine T_region ?_
  refine S_val rfl rfl (Y_move rfl) ?_
  refine S_val rfl rfl (Y_loadAI 0 (und rfl) rfl rfl rfl (siz rfl) (dl_length _ _ _)) ?_
  refine S_val rfl rfl (Y_loadAI 1 (und rfl) rfl rfl rfl (siz rfl) (dl_length _ _ _)) ?_
  refine S_val rfl rfl (Y_build (und rfl) (siz rfl) (zer rfl) rfl rfl) ?_
  rw [w_zero]
  refine S_callV rfl rfl (bod rfl) (fun w hs => ct _) rfl rfl ?_
  refine S_val rfl rfl (Y_move rfl) ?_
  refine S_val rfl rfl (Y_extract rfl rfl) ?_
  refine S_val rfl rfl (Y_extract rfl rfl) ?_
  refine S_allocA (zer rfl) rfl rfl fun _ => ?_
  refine S_storeAI 3 (siz rfl) rfl rfl rfl rfl (dl_length _ _ _) rfl ?_
  refine S_val rfl rfl (Y_assign rfl) ?_
  refine S_nil ?_
  refine X_seq ?_
  refine T_seq ?_
  refine T_region ?_
  refine S_val rfl rfl (Y_loadAI 3 (und rfl) rfl rfl rfl (siz rfl) (dl_length _ _ _)) ?_
  refine S_storeAI 2 (siz rfl) rfl rfl rfl rfl (dl_length _ _ _) rfl ?_
  refine S_nil ?_
  refine X_seq ?_
  refine T_ret ?_
  ((first | refine X_fin_ret ?_ | refine X_fin ?_); exact ⟨[_], [], .cons (.agg 2 rfl (und rfl) rfl rfl (siz rfl)) .nil, Emb.nil _, rfl, rfl⟩)
theorem ldo_lt (a b : Nat) (ha : a < 2 ^ 256) (hb : b < 2 ^ 256) (w : World) : Fn Try.prog 44 #[.int .u8 16, W a, W b] w fun v N => v = W (bN (decide (a < b))) ∧ N = [] := by
  have ct := do_lt a b 0 ha hb
  generalize hz : (bN (decide (a < b))) = z at *
  clear hz
  refine Fn_of (args := [.int .u8 16, W a, W b]) Try.func44 rfl Try.ntmps44 Try.results44 (by simp) ?_
  refine T_seq ?_
  refine T_region ?_
  refine S_boxA rfl rfl rfl fun _ => ?_
  refine S_boxA rfl rfl rfl fun _ => ?_
  refine S_allocA (zer rfl) rfl rfl fun _ => ?_
  refine S_nil ?_
  refine X_seq ?_
  refine T_seq ?_
  refine T_region ?_
  refine S_val rfl rfl (Y_move rfl) ?_
  refine S_val rfl rfl (Y_loadAI 0 (und rfl) rfl rfl rfl (siz rfl) (dl_length _ _ _)) ?_
  refine S_val rfl rfl (Y_loadAI 1 (und rfl) rfl rfl rfl (siz rfl) (dl_length _ _ _)) ?_
  refine S_val rfl rfl (Y_build (und rfl) (siz rfl) (zer rfl) rfl rfl) ?_
  rw [w_zero]
  refine S_callV rfl rfl (bod rfl) (fun w hs => ct _) rfl rfl ?_
  refine S_val rfl rfl (Y_move rfl) ?_
  refine S_val rfl rfl (Y_extract rfl rfl) ?_
  refine S_val rfl rfl (Y_extract rfl rfl) ?_
  refine S_allocA (zer rfl) rfl rfl fun _ => ?_
  refine S_storeAI 3 (siz rfl) rfl rfl rfl rfl (dl_length _ _ _) rfl ?_
  refine S_val rfl rfl (Y_assign rfl) ?_
  refine S_nil ?_
  refine X_seq ?_
  refine T_seq ?_
  refine T_region ?_
  refine S_val rfl rfl (Y_loadAI 3 (und rfl) rfl rfl rfl (siz rfl) (dl_length _ _ _)) ?_
  refine S_storeAI 2 (siz rfl) rfl rfl rfl rfl (dl_length _ _ _) rfl ?_
  refine S_nil ?_
  refine X_seq ?_
  refine T_ret ?_
  ((first | refine X_fin_ret ?_ | refine X_fin ?_); exact ⟨[_], [], .cons (.agg 2 rfl (und rfl) rfl rfl (siz rfl)) .nil, Emb.nil _, rfl, rfl⟩)
theorem ldo_gt (a b : Nat) (ha : a < 2 ^ 256) (hb : b < 2 ^ 256) (w : World) : Fn Try.prog 44 #[.int .u8 17, W a, W b] w fun v N => v = W (bN (decide (b < a))) ∧ N = [] := by
  have ct := do_gt a b 0 ha hb
  generalize hz : (bN (decide (b < a))) = z at *
  clear hz
  refine Fn_of (args := [.int .u8 17, W a, W b]) Try.func44 rfl Try.ntmps44 Try.results44 (by simp) ?_
  refine T_seq ?_
  refine T_region ?_
  refine S_boxA rfl rfl rfl fun _ => ?_
  refine S_boxA rfl rfl rfl fun _ => ?_
  refine S_allocA (zer rfl) rfl rfl fun _ => ?_
  refine S_nil ?_
  refine X_seq ?_
  refine T_seq ?_
  refine T_region ?_
  refine S_val rfl rfl (Y_move rfl) ?_
  refine S_val rfl rfl (Y_loadAI 0 (und rfl) rfl rfl rfl (siz rfl) (dl_length _ _ _)) ?_
  refine S_val rfl rfl (Y_loadAI 1 (und rfl) rfl rfl rfl (siz rfl) (dl_length _ _ _)) ?_
  refine S_val rfl rfl (Y_build (und rfl) (siz rfl) (zer rfl) rfl rfl) ?_
  rw [w_zero]
  refine S_callV rfl rfl (bod rfl) (fun w hs => ct _) rfl rfl ?_
  refine S_val rfl rfl (Y_move rfl) ?_
  refine S_val rfl rfl (Y_extract rfl rfl) ?_
  refine S_val rfl rfl (Y_extract rfl rfl) ?_
  refine S_allocA (zer rfl) rfl rfl fun _ => ?_
  refine S_storeAI 3 (siz rfl) rfl rfl rfl rfl (dl_length _ _ _) rfl ?_
  refine S_val rfl rfl (Y_assign rfl) ?_
  refine S_nil ?_
  refine X_seq ?_
  refine T_seq ?_
  refine T_region ?_
  refine S_val rfl rfl (Y_loadAI 3 (und rfl) rfl rfl rfl (siz rfl) (dl_length _ _ _)) ?_
  refine S_storeAI 2 (siz rfl) rfl rfl rfl rfl (dl_length _ _ _) rfl ?_
  refine S_nil ?_
  refine X_seq ?_
  refine T_ret ?_
  ((first | refine X_fin_ret ?_ | refine X_fin ?_); exact ⟨[_], [], .cons (.agg 2 rfl (und rfl) rfl rfl (siz rfl)) .nil, Emb.nil _, rfl, rfl⟩)
theorem ldo_slt (a b : Nat) (ha : a < 2 ^ 256) (hb : b < 2 ^ 256) (w : World) : Fn Try.prog 44 #[.int .u8 18, W a, W b] w fun v N => v = W (bN (slt a b)) ∧ N = [] := by
  have ct := do_slt a b 0 ha hb
  generalize hz : (bN (slt a b)) = z at *
  clear hz
  refine Fn_of (args := [.int .u8 18, W a, W b]) Try.func44 rfl Try.ntmps44 Try.results44 (by simp) ?_
  refine T_seq ?_
  refine T_region ?_
  refine S_boxA rfl rfl rfl fun _ => ?_
  refine S_boxA rfl rfl rfl fun _ => ?_
  refine S_allocA (zer rfl) rfl rfl fun _ => ?_
  refine S_nil ?_
  refine X_seq ?_
  refine T_seq ?_
  refine T_region ?_
  refine S_val rfl rfl (Y_move rfl) ?_
  refine S_val rfl rfl (Y_loadAI 0 (und rfl) rfl rfl rfl (siz rfl) (dl_length _ _ _)) ?_
  refine S_val rfl rfl (Y_loadAI 1 (und rfl) rfl rfl rfl (siz rfl) (dl_length _ _ _)) ?_
  refine S_val rfl rfl (Y_build (und rfl) (siz rfl) (zer rfl) rfl rfl) ?_
  rw [w_zero]
  refine S_callV rfl rfl (bod rfl) (fun w hs => ct _) rfl rfl ?_
  refine S_val rfl rfl (Y_move rfl) ?_
  refine S_val rfl rfl (Y_extract rfl rfl) ?_
  refine S_val rfl rfl (Y_extract rfl rfl) ?_
  refine S_allocA (zer rfl) rfl rfl fun _ => ?_
  refine S_storeAI 3 (siz rfl) rfl rfl rfl rfl (dl_length _ _ _) rfl ?_
  refine S_val rfl rfl (Y_assign rfl) ?_
  refine S_nil ?_
  refine X_seq ?_
  refine T_seq ?_
  refine T_region ?_
  refine S_val rfl rfl (Y_loadAI 3 (und rfl) rfl rfl rfl (siz rfl) (dl_length _ _ _)) ?_
  refine S_storeAI 2 (siz rfl) rfl rfl rfl rfl (dl_length _ _ _) rfl ?_
  refine S_nil ?_
  refine X_seq ?_
  refine T_ret ?_
  ((first | refine X_fin_ret ?_ | refine X_fin ?_); exact ⟨[_], [], .cons (.agg 2 rfl (und rfl) rfl rfl (siz rfl)) .nil, Emb.nil _, rfl, rfl⟩)
theorem ldo_sgt (a b : Nat) (ha : a < 2 ^ 256) (hb : b < 2 ^ 256) (w : World) : Fn Try.prog 44 #[.int .u8 19, W a, W b] w fun v N => v = W (bN (slt b a)) ∧ N = [] := by
  have ct := do_sgt a b 0 ha hb
  generalize hz : (bN (slt b a)) = z at *
  clear hz
  refine Fn_of (args := [.int .u8 19, W a, W b]) Try.func44 rfl Try.ntmps44 Try.results44 (by simp) ?_
  refine T_seq ?_
  refine T_region ?_
  refine S_boxA rfl rfl rfl fun _ => ?_
  refine S_boxA rfl rfl rfl fun _ => ?_
  refine S_allocA (zer rfl) rfl rfl fun _ => ?_
  refine S_nil ?_
  refine X_seq ?_
  refine T_seq ?_
  refine T_region ?_
  refine S_val rfl rfl (Y_move rfl) ?_
  refine S_val rfl rfl (Y_loadAI 0 (und rfl) rfl rfl rfl (siz rfl) (dl_length _ _ _)) ?_
  refine S_val rfl rfl (Y_loadAI 1 (und rfl) rfl rfl rfl (siz rfl) (dl_length _ _ _)) ?_
  refine S_val rfl rfl (Y_build (und rfl) (siz rfl) (zer rfl) rfl rfl) ?_
  rw [w_zero]
  refine S_callV rfl rfl (bod rfl) (fun w hs => ct _) rfl rfl ?_
  refine S_val rfl rfl (Y_move rfl) ?_
  refine S_val rfl rfl (Y_extract rfl rfl) ?_
  refine S_val rfl rfl (Y_extract rfl rfl) ?_
  refine S_allocA (zer rfl) rfl rfl fun _ => ?_
  refine S_storeAI 3 (siz rfl) rfl rfl rfl rfl (dl_length _ _ _) rfl ?_
  refine S_val rfl rfl (Y_assign rfl) ?_
  refine S_nil ?_
  refine X_seq ?_
  refine T_seq ?_
  refine T_region ?_
  refine S_val rfl rfl (Y_loadAI 3 (und rfl) rfl rfl rfl (siz rfl) (dl_length _ _ _)) ?_
  refine S_storeAI 2 (siz rfl) rfl rfl rfl rfl (dl_length _ _ _) rfl ?_
  refine S_nil ?_
  refine X_seq ?_
  refine T_ret ?_
  ((first | refine X_fin_ret ?_ | refine X_fin ?_); exact ⟨[_], [], .cons (.agg 2 rfl (und rfl) rfl rfl (siz rfl)) .nil, Emb.nil _, rfl, rfl⟩)
theorem ldo_eq (a b : Nat) (ha : a < 2 ^ 256) (hb : b < 2 ^ 256) (w : World) : Fn Try.prog 44 #[.int .u8 20, W a, W b] w fun v N => v = W (bN (decide (a = b))) ∧ N = [] := by
  have ct := do_eq a b 0 ha hb
  generalize hz : (bN (decide (a = b))) = z at *
  clear hz
  refine Fn_of (args := [.int .u8 20, W a, W b]) Try.func44 rfl Try.ntmps44 Try.results44 (by simp) ?_
  refine T_seq ?_
  refine T_region ?_
  refine S_boxA rfl rfl rfl fun _ => ?_
  refine S_boxA rfl rfl rfl fun _ => ?_
  refine S_allocA (zer rfl) rfl rfl fun _ => ?_
  refine S_nil ?_
  refine X_seq ?_
  refine T_seq ?_
  refine T_region ?_
  refine S_val rfl rfl (Y_move rfl) ?_
  refine S_val rfl rfl (Y_loadAI 0 (und rfl) rfl rfl rfl (siz rfl) (dl_length _ _ _)) ?_
  refine S_val rfl rfl (Y_loadAI 1 (und rfl) rfl rfl rfl (siz rfl) (dl_length _ _ _)) ?_
  refine S_val rfl rfl (Y_build (und rfl) (siz rfl) (zer rfl) rfl rfl) ?_
  rw [w_zero]
  refine S_callV rfl rfl (bod rfl) (fun w hs => ct _) rfl rfl ?_
  refine S_val rfl rfl (Y_move rfl) ?_
  refine S_val rfl rfl (Y_extract rfl rfl) ?_
  refine S_val rfl rfl (Y_extract rfl rfl) ?_
  refine S_allocA (zer rfl) rfl rfl fun _ => ?_
  refine S_storeAI 3 (siz rfl) rfl rfl rfl rfl (dl_length _ _ _) rfl ?_
  refine S_val rfl rfl (Y_assign rfl) ?_
  refine S_nil ?_
  refine X_seq ?_
  refine T_seq ?_
  refine T_region ?_
  refine S_val rfl rfl (Y_loadAI 3 (und rfl) rfl rfl rfl (siz rfl) (dl_length _ _ _)) ?_
  refine S_storeAI 2 (siz rfl) rfl rfl rfl rfl (dl_length _ _ _) rfl ?_
  refine S_nil ?_
  refine X_seq ?_
  refine T_ret ?_
  ((first | refine X_fin_ret ?_ | refine X_fin ?_); exact ⟨[_], [], .cons (.agg 2 rfl (und rfl) rfl rfl (siz rfl)) .nil, Emb.nil _, rfl, rfl⟩)
theorem ldo_xor (a b : Nat) (ha : a < 2 ^ 256) (hb : b < 2 ^ 256) (w : World) : Fn Try.prog 44 #[.int .u8 24, W a, W b] w fun v N => v = W (a ^^^ b) ∧ N = [] := by
  have ct := do_xor a b 0 ha hb
  generalize hz : (a ^^^ b) = z at *
  clear hz
  refine Fn_of (args := [.int .u8 24, W a, W b]) Try.func44 rfl Try.ntmps44 Try.results44 (by simp) ?_
  refine T_seq ?_
  refine T_region ?_
  refine S_boxA rfl rfl rfl fun _ => ?_
  refine S_boxA rfl rfl rfl fun _ => ?_
  refine S_allocA (zer rfl) rfl rfl fun _ => ?_
  refine S_nil ?_
  refine X_seq ?_
  refine T_seq ?_
  refine T_region ?_
  refine S_val rfl rfl (Y_move rfl) ?_
  refine S_val rfl rfl (Y_loadAI 0 (und rfl) rfl rfl rfl (siz rfl) (dl_length _ _ _)) ?_
  refine S_val rfl rfl (Y_loadAI 1 (und rfl) rfl rfl rfl (siz rfl) (dl_length _ _ _)) ?_
  refine S_val rfl rfl (Y_build (und rfl) (siz rfl) (zer rfl) rfl rfl) ?_
  rw [w_zero]
  refine S_callV rfl rfl (bod rfl) (fun w hs => ct _) rfl rfl ?_
  refine S_val rfl rfl (Y_move rfl) ?_
  refine S_val rfl rfl (Y_extract rfl rfl) ?_
  refine S_val rfl rfl (Y_extract rfl rfl) ?_
  refine S_allocA (zer rfl) rfl rfl fun _ => ?_
  refine S_storeAI 3 (siz rfl) rfl rfl rfl rfl (dl_length _ _ _) rfl ?_
  refine S_val rfl rfl (Y_assign rfl) ?_
  refine S_nil ?_
  refine X_seq ?_
  refine T_seq ?_
  refine T_region ?_
  refine S_val rfl rfl (Y_loadAI 3 (und rfl) rfl rfl rfl (siz rfl) (dl_length _ _ _)) ?_
  refine S_storeAI 2 (siz rfl) rfl rfl rfl rfl (dl_length _ _ _) rfl ?_
  refine S_nil ?_
  refine X_seq ?_
  refine T_ret ?_
  ((first | refine X_fin_ret ?_ | refine X_fin ?_); exact ⟨[_], [], .cons (.agg 2 rfl (und rfl) rfl rfl (siz rfl)) .nil, Emb.nil _, rfl, rfl⟩)
theorem ldo_not (a b : Nat) (ha : a < 2 ^ 256) (hb : b < 2 ^ 256) (w : World) : Fn Try.prog 44 #[.int .u8 25, W a, W b] w fun v N => v = W (2 ^ 256 - 1 - a) ∧ N = [] := by
  have ct := do_not a b 0 ha hb
  generalize hz : (2 ^ 256 - 1 - a) = z at *
  clear hz
  refine Fn_of (args := [.int .u8 25, W a, W b]) Try.func44 rfl Try.ntmps44 Try.results44 (by simp) ?_
  refine T_seq ?_
  refine T_region ?_
  refine S_boxA rfl rfl rfl fun _ => ?_
  refine S_boxA rfl rfl rfl fun _ => ?_
  refine S_allocA (zer rfl) rfl rfl fun _ => ?_
  refine S_nil ?_
  refine X_seq ?_
  refine T_seq ?_
  refine T_region ?_
  refine S_val rfl rfl (Y_move rfl) ?_
  refine S_val rfl rfl (Y_loadAI 0 (und rfl) rfl rfl rfl (siz rfl) (dl_length _ _ _)) ?_
  refine S_val rfl rfl (Y_loadAI 1 (und rfl) rfl rfl rfl (siz rfl) (dl_length _ _ _)) ?_
  refine S_val rfl rfl (Y_build (und rfl) (siz rfl) (zer rfl) rfl rfl) ?_
  rw [w_zero]
  refine S_callV rfl rfl (bod rfl) (fun w hs => ct _) rfl rfl ?_
  refine S_val rfl rfl (Y_move rfl) ?_
  refine S_val rfl rfl (Y_extract rfl rfl) ?_
  refine S_val rfl rfl (Y_extract rfl rfl) ?_
  refine S_allocA (zer rfl) rfl rfl fun _ => ?_
  refine S_storeAI 3 (siz rfl) rfl rfl rfl rfl (dl_length _ _ _) rfl ?_
  refine S_val rfl rfl (Y_assign rfl) ?_
  refine S_nil ?_
  refine X_seq ?_
  refine T_seq ?_
  refine T_region ?_
  refine S_val rfl rfl (Y_loadAI 3 (und rfl) rfl rfl rfl (siz rfl) (dl_length _ _ _)) ?_
  refine S_storeAI 2 (siz rfl) rfl rfl rfl rfl (dl_length _ _ _) rfl ?_
  refine S_nil ?_
  refine X_seq ?_
  refine T_ret ?_
  ((first | refine X_fin_ret ?_ | refine X_fin ?_); exact ⟨[_], [], .cons (.agg 2 rfl (und rfl) rfl rfl (siz rfl)) .nil, Emb.nil _, rfl, rfl⟩)
theorem ldo_shl (a b : Nat) (ha : a < 2 ^ 256) (hb : b < 2 ^ 256) (w : World) : Fn Try.prog 44 #[.int .u8 27, W a, W b] w fun v N => v = W (b * 2 ^ min a 256 % 2 ^ 256) ∧ N = [] := by
  have ct := do_shl a b 0 ha hb
  generalize hz : (b * 2 ^ min a 256 % 2 ^ 256) = z at *
  clear hz
  refine Fn_of (args := [.int .u8 27, W a, W b]) Try.func44 rfl Try.ntmps44 Try.results44 (by simp) ?_
  refine T_seq ?_
  refine T_region ?_
  refine S_boxA rfl rfl rfl fun _ => ?_
  refine S_boxA rfl rfl rfl fun _ => ?_
  refine S_allocA (zer rfl) rfl rfl fun _ => ?_
  refine S_nil ?_
  refine X_seq ?_
  refine T_seq ?_
  refine T_region ?_
  refine S_val rfl rfl (Y_move rfl) ?_
  refine S_val rfl rfl (Y_loadAI 0 (und rfl) rfl rfl rfl (siz rfl) (dl_length _ _ _)) ?_
  refine S_val rfl rfl (Y_loadAI 1 (und rfl) rfl rfl rfl (siz rfl) (dl_length _ _ _)) ?_
  refine S_val rfl rfl (Y_build (und rfl) (siz rfl) (zer rfl) rfl rfl) ?_
  rw [w_zero]
  refine S_callV rfl rfl (bod rfl) (fun w hs => ct _) rfl rfl ?_
  refine S_val rfl rfl (Y_move rfl) ?_
  refine S_val rfl rfl (Y_extract rfl rfl) ?_
  refine S_val rfl rfl (Y_extract rfl rfl) ?_
  refine S_allocA (zer rfl) rfl rfl fun _ => ?_
  refine S_storeAI 3 (siz rfl) rfl rfl rfl rfl (dl_length _ _ _) rfl ?_
  refine S_val rfl rfl (Y_assign rfl) ?_
  refine S_nil ?_
  refine X_seq ?_
  refine T_seq ?_
  refine T_region ?_
  refine S_val rfl rfl (Y_loadAI 3 (und rfl) rfl rfl rfl (siz rfl) (dl_length _ _ _)) ?_
  refine S_storeAI 2 (siz rfl) rfl rfl rfl rfl (dl_length _ _ _) rfl ?_
  refine S_nil ?_
  refine X_seq ?_
  refine T_ret ?_
  ((first | refine X_fin_ret ?_ | refine X_fin ?_); exact ⟨[_], [], .cons (.agg 2 rfl (und rfl) rfl rfl (siz rfl)) .nil, Emb.nil _, rfl, rfl⟩)
theorem ldo_shr (a b : Nat) (ha : a < 2 ^ 256) (hb : b < 2 ^ 256) (w : World) : Fn Try.prog 44 #[.int .u8 28, W a, W b] w fun v N => v = W (b / 2 ^ min a 256) ∧ N = [] := by
  have ct := do_shr a b 0 ha hb
  generalize hz : (b / 2 ^ min a 256) = z at *
  clear hz
  refine Fn_of (args := [.int .u8 28, W a, W b]) Try.func44 rfl Try.ntmps44 Try.results44 (by simp) ?_
  refine T_seq ?_
  refine T_region ?_
  refine S_boxA rfl rfl rfl fun _ => ?_
  refine S_boxA rfl rfl rfl fun _ => ?_
  refine S_allocA (zer rfl) rfl rfl fun _ => ?_
  refine S_nil ?_
  refine X_seq ?_
  refine T_seq ?_
  refine T_region ?_
  refine S_val rfl rfl (Y_move rfl) ?_
  refine S_val rfl rfl (Y_loadAI 0 (und rfl) rfl rfl rfl (siz rfl) (dl_length _ _ _)) ?_
  refine S_val rfl rfl (Y_loadAI 1 (und rfl) rfl rfl rfl (siz rfl) (dl_length _ _ _)) ?_
  refine S_val rfl rfl (Y_build (und rfl) (siz rfl) (zer rfl) rfl rfl) ?_
  rw [w_zero]
  refine S_callV rfl rfl (bod rfl) (fun w hs => ct _) rfl rfl ?_
  refine S_val rfl rfl (Y_move rfl) ?_
  refine S_val rfl rfl (Y_extract rfl rfl) ?_
  refine S_val rfl rfl (Y_extract rfl rfl) ?_
  refine S_allocA (zer rfl) rfl rfl fun _ => ?_
  refine S_storeAI 3 (siz rfl) rfl rfl rfl rfl (dl_length _ _ _) rfl ?_
  refine S_val rfl rfl (Y_assign rfl) ?_
  refine S_nil ?_
  refine X_seq ?_
  refine T_seq ?_
  refine T_region ?_
  refine S_val rfl rfl (Y_loadAI 3 (und rfl) rfl rfl rfl (siz rfl) (dl_length _ _ _)) ?_
  refine S_storeAI 2 (siz rfl) rfl rfl rfl rfl (dl_length _ _ _) rfl ?_
  refine S_nil ?_
  refine X_seq ?_
  refine T_ret ?_
  ((first | refine X_fin_ret ?_ | refine X_fin ?_); exact ⟨[_], [], .cons (.agg 2 rfl (und rfl) rfl rfl (siz rfl)) .nil, Emb.nil _, rfl, rfl⟩)
theorem xor_ones {a : Nat} (ha : a < 2 ^ 256) : a ^^^ (2 ^ 256 - 1) = 2 ^ 256 - 1 - a := by
  refine Nat.eq_of_testBit_eq fun i => ?_
  rw [Nat.testBit_xor, Nat.testBit_two_pow_sub_one, show 2 ^ 256 - 1 - a = 2 ^ 256 - (a + 1) by omega, Nat.testBit_two_pow_sub_succ ha]
  by_cases h : i < 256
  · rw [decide_eq_true h]; cases a.testBit i <;> rfl
  · have : a.testBit i = false := Nat.testBit_lt_two_pow (Nat.lt_of_lt_of_le ha (Nat.pow_le_pow_right (by omega) (by omega)))
    rw [decide_eq_false h, this]; rfl
theorem bN_lt (b : Bool) : bN b < 2 := by cases b <;> decide
theorem one_of (a b : Nat) : ((bN (decide (a < b)) + bN (decide (b < a))) % 2 ^ 256 + bN (decide (a = b))) % 2 ^ 256 = 1 := by
  rcases Nat.lt_trichotomy a b with h | h | h
  · rw [decide_eq_true h, decide_eq_false (show ¬ b < a by omega), decide_eq_false (show ¬ a = b by omega)]; decide +kernel
  · rw [decide_eq_false (show ¬ a < b by omega), decide_eq_false (show ¬ b < a by omega), decide_eq_true h]; decide +kernel
  · rw [decide_eq_false (show ¬ a < b by omega), decide_eq_true h, decide_eq_false (show ¬ a = b by omega)]; decide +kernel
theorem aluAlike_law (a : Nat) (ha : a < 2 ^ 256) (b : Nat) (hb : b < 2 ^ 256) (n : Nat) (hn : n < 256) (w : World) : Fn Try.prog 11 #[W a, W b, .int .u8 n] w fun v N => v = .bool true ∧ N = [] := by
  obtain ⟨O, hO⟩ : ∃ o, 2 ^ 256 - 1 = o := ⟨_, rfl⟩
  have hOl : O < 2 ^ 256 := by omega
  have on := ldo_not 0 0 (by omega) (by omega)
  rw [show 2 ^ 256 - 1 - 0 = O by omega] at on
  have hp2 : 2 ^ n < 2 ^ 256 := Nat.pow_lt_pow_right (by omega) hn
  have pw := ldo_exp 2 n (by omega) (by omega)
  rw [show expN 2 n = 2 ^ n from Nat.mod_eq_of_lt hp2] at pw
  have s1 := ldo_sub a b ha hb
  have nb := ldo_not b a hb ha
  have a1 := ldo_add a (2 ^ 256 - 1 - b) ha (by omega)
  have a2 := ldo_add ((a + (2 ^ 256 - 1 - b)) % 2 ^ 256) 1 (Nat.mod_lt _ (by omega)) (by omega)
  rw [show ((a + (2 ^ 256 - 1 - b)) % 2 ^ 256 + 1) % 2 ^ 256 = (a + 2 ^ 256 - b) % 2 ^ 256 by omega] at a2
  have sl := ldo_shl n a (by omega) ha
  have ml := ldo_mul a (2 ^ n) ha hp2
  rw [show min n 256 = n by omega] at sl
  have sr := ldo_shr n a (by omega) ha
  have dv := ldo_div a (2 ^ n) ha hp2
  rw [show min n 256 = n by omega] at sr
  have na := ldo_not a b ha hb
  have xo := ldo_xor a O ha hOl
  have ex : a ^^^ O = 2 ^ 256 - 1 - a := by rw [← hO]; exact xor_ones ha
  rw [ex] at xo
  have l1 := ldo_lt a b ha hb
  have g1 := ldo_gt b a hb ha
  have l2 := ldo_slt a b ha hb
  have g2 := ldo_sgt b a hb ha
  have g3 := ldo_gt a b ha hb
  have q1 := ldo_eq a b ha hb
  have p1 := ldo_add (bN (decide (a < b))) (bN (decide (b < a))) (Nat.lt_trans (bN_lt _) (by omega)) (Nat.lt_trans (bN_lt _) (by omega))
  have p2 := ldo_add ((bN (decide (a < b)) + bN (decide (b < a))) % 2 ^ 256) (bN (decide (a = b))) (Nat.mod_lt _ (by omega)) (Nat.lt_trans (bN_lt _) (by omega))
  rw [one_of] at p2
  have wn := w_of (n := n) (by omega)
  clear ha hb hOl hO ex
  generalize 2 ^ 256 - 1 - b = z1 at *
  generalize 2 ^ 256 - 1 - a = z2 at *
  generalize (a + z1) % 2 ^ 256 = z3 at *
  generalize (a + 2 ^ 256 - b) % 2 ^ 256 = z4 at *
  generalize a * 2 ^ n % 2 ^ 256 = z5 at *
  generalize a / 2 ^ n = z6 at *
  generalize 2 ^ n = P at *
  generalize (bN (decide (a < b)) + bN (decide (b < a))) % 2 ^ 256 = z7 at *
  generalize bN (decide (a < b)) = z8 at *
  generalize bN (decide (b < a)) = z9 at *
  generalize bN (decide (a = b)) = z10 at *
  generalize bN (slt a b) = z11 at *
  clear hp2
  refine Fn_of (args := [W a, W b, .int .u8 n]) Try.func11 rfl Try.ntmps11 Try.results11 (by simp) ?_
  refine T_seq ?_
  refine T_region ?_
  refine S_boxA rfl rfl rfl fun _ => ?_
  refine S_boxA rfl rfl rfl fun _ => ?_
  refine S_val rfl rfl (Y_assign rfl) ?_
  refine S_nil ?_
  refine X_seq ?_
  refine T_seq ?_
  refine T_region ?_
  refine S_val rfl rfl (Y_build (und rfl) (siz rfl) (zer rfl) rfl rfl) ?_
  refine S_allocA (zer rfl) rfl rfl fun _ => ?_
  refine S_storeAI 2 (siz rfl) rfl rfl rfl rfl rfl rfl ?_
  refine S_nil ?_
  refine X_seq ?_
  refine T_seq ?_
  refine T_region ?_
  refine S_val rfl rfl (Y_build (und rfl) (siz rfl) (zer rfl) rfl rfl) ?_
  refine S_val rfl rfl (Y_build (und rfl) (siz rfl) (zer rfl) rfl rfl) ?_
  rw [w_lit1, w_zero]
  refine S_callV rfl rfl (bod rfl) (fun w hs => on _) rfl rfl ?_
  refine S_allocA (zer rfl) rfl rfl fun _ => ?_
  refine S_storeAI 3 (siz rfl) rfl rfl rfl rfl (dl_length _ _ _) rfl ?_
  refine S_nil ?_
  refine X_seq ?_
  refine T_seq ?_
  refine T_region ?_
  refine S_val rfl rfl (Y_move rfl) ?_
  refine S_val rfl rfl (Y_conv (und rfl) (und rfl) rfl (wu64 (by omega) (by omega))) ?_
  refine S_val rfl rfl (Y_build (und rfl) (siz rfl) (zer rfl) rfl rfl) ?_
  refine S_allocA (zer rfl) rfl rfl fun _ => ?_
  refine S_storeAI 4 (siz rfl) rfl rfl rfl rfl rfl rfl ?_
  refine S_nil ?_
  refine X_seq ?_
  refine T_seq ?_
  refine T_region ?_
  refine S_val rfl rfl (Y_build (und rfl) (siz rfl) (zer rfl) rfl rfl) ?_
  refine S_val rfl rfl (Y_loadAI 4 (und rfl) rfl rfl rfl (siz rfl) rfl) ?_
  rw [wn, w_lit2]
  refine S_callV rfl rfl (bod rfl) (fun w hs => pw _) rfl rfl ?_
  refine S_allocA (zer rfl) rfl rfl fun _ => ?_
  refine S_storeAI 5 (siz rfl) rfl rfl rfl rfl (dl_length _ _ _) rfl ?_
  refine S_nil ?_
  refine X_seq ?_
  refine T_seq ?_
  refine T_seq ?_
  refine T_draw (by kernel_rfl) (by kernel_rfl) rfl ?_
  refine D0_valM rfl rfl rfl (Y_loadAI 0 (und rfl) rfl rfl rfl (siz rfl) (dl_length _ _ _)) ?_
  refine D0_valM rfl rfl rfl (Y_loadAI 1 (und rfl) rfl rfl rfl (siz rfl) (dl_length _ _ _)) ?_
  refine D0_callV rfl rfl (bod rfl) (fun w hs => s1 _) rfl rfl ?_
  refine D0_valM rfl rfl rfl (Y_loadAI 0 (und rfl) rfl rfl rfl (siz rfl) (dl_length _ _ _)) ?_
  refine D0_valM rfl rfl rfl (Y_loadAI 1 (und rfl) rfl rfl rfl (siz rfl) (dl_length _ _ _)) ?_
  refine D0_valM rfl rfl rfl (Y_loadAI 0 (und rfl) rfl rfl rfl (siz rfl) (dl_length _ _ _)) ?_
  refine D0_callV rfl rfl (bod rfl) (fun w hs => nb _) rfl rfl ?_
  skip
  refine D0_callV rfl rfl (bod rfl) (fun w hs => a1 _) rfl rfl ?_
  refine D0_valM rfl rfl rfl (Y_loadAI 2 (und rfl) rfl rfl rfl (siz rfl) (dl_length _ _ _)) ?_
  refine D0_callV rfl rfl (bod rfl) (fun w hs => a2 _) rfl rfl ?_
  refine D0_val rfl rfl rfl (Y_neqA_f (eqg rfl) (und rfl) (und rfl) (siz rfl) rfl rfl (dl_length _ _ _) rfl) ?_
  refine D0_val rfl rfl rfl (Y_move rfl) ?_
  refine D0_valM rfl rfl rfl (Y_loadAI 4 (und rfl) rfl rfl rfl (siz rfl) (dl_length _ _ _)) ?_
  refine D0_valM rfl rfl rfl (Y_loadAI 0 (und rfl) rfl rfl rfl (siz rfl) (dl_length _ _ _)) ?_
  refine D0_callV rfl rfl (bod rfl) (fun w hs => sl _) rfl rfl ?_
  refine D0_valM rfl rfl rfl (Y_loadAI 0 (und rfl) rfl rfl rfl (siz rfl) (dl_length _ _ _)) ?_
  refine D0_valM rfl rfl rfl (Y_loadAI 5 (und rfl) rfl rfl rfl (siz rfl) (dl_length _ _ _)) ?_
  refine D0_callV rfl rfl (bod rfl) (fun w hs => ml _) rfl rfl ?_
  refine D0_val rfl rfl rfl (Y_neqA_f (eqg rfl) (und rfl) (und rfl) (siz rfl) rfl rfl (dl_length _ _ _) rfl) ?_
  refine D0_val rfl rfl rfl (Y_pick_f rfl rfl) ?_
  refine D0_val rfl rfl rfl (Y_move rfl) ?_
  refine D0_valM rfl rfl rfl (Y_loadAI 4 (und rfl) rfl rfl rfl (siz rfl) (dl_length _ _ _)) ?_
  refine D0_valM rfl rfl rfl (Y_loadAI 0 (und rfl) rfl rfl rfl (siz rfl) (dl_length _ _ _)) ?_
  refine D0_callV rfl rfl (bod rfl) (fun w hs => sr _) rfl rfl ?_
  refine D0_valM rfl rfl rfl (Y_loadAI 0 (und rfl) rfl rfl rfl (siz rfl) (dl_length _ _ _)) ?_
  refine D0_valM rfl rfl rfl (Y_loadAI 5 (und rfl) rfl rfl rfl (siz rfl) (dl_length _ _ _)) ?_
  refine D0_callV rfl rfl (bod rfl) (fun w hs => dv _) rfl rfl ?_
  refine D0_val rfl rfl rfl (Y_neqA_f (eqg rfl) (und rfl) (und rfl) (siz rfl) rfl rfl (dl_length _ _ _) rfl) ?_
  refine D0_val rfl rfl rfl (Y_pick_f rfl rfl) ?_
  refine D0_nil ?_
  refine X_seq ?_
  refine T_cond_false rfl ?_
  refine T_skip ?_
  refine X_seq ?_
  refine T_seq ?_
  refine T_seq ?_
  refine T_draw (by kernel_rfl) (by kernel_rfl) rfl ?_
  refine D0_valM rfl rfl rfl (Y_loadAI 0 (und rfl) rfl rfl rfl (siz rfl) (dl_length _ _ _)) ?_
  refine D0_valM rfl rfl rfl (Y_loadAI 1 (und rfl) rfl rfl rfl (siz rfl) (dl_length _ _ _)) ?_
  refine D0_callV rfl rfl (bod rfl) (fun w hs => na _) rfl rfl ?_
  refine D0_valM rfl rfl rfl (Y_loadAI 0 (und rfl) rfl rfl rfl (siz rfl) (dl_length _ _ _)) ?_
  refine D0_valM rfl rfl rfl (Y_loadAI 3 (und rfl) rfl rfl rfl (siz rfl) (dl_length _ _ _)) ?_
  refine D0_callV rfl rfl (bod rfl) (fun w hs => xo _) rfl rfl ?_
  refine D0_val rfl rfl rfl (Y_neqA_f (eqg rfl) (und rfl) (und rfl) (siz rfl) rfl rfl (dl_length _ _ _) rfl) ?_
  refine D0_val rfl rfl rfl (Y_move rfl) ?_
  refine D0_valM rfl rfl rfl (Y_loadAI 0 (und rfl) rfl rfl rfl (siz rfl) (dl_length _ _ _)) ?_
  refine D0_valM rfl rfl rfl (Y_loadAI 1 (und rfl) rfl rfl rfl (siz rfl) (dl_length _ _ _)) ?_
  refine D0_callV rfl rfl (bod rfl) (fun w hs => l1 _) rfl rfl ?_
  refine D0_valM rfl rfl rfl (Y_loadAI 1 (und rfl) rfl rfl rfl (siz rfl) (dl_length _ _ _)) ?_
  refine D0_valM rfl rfl rfl (Y_loadAI 0 (und rfl) rfl rfl rfl (siz rfl) (dl_length _ _ _)) ?_
  refine D0_callV rfl rfl (bod rfl) (fun w hs => g1 _) rfl rfl ?_
  refine D0_val rfl rfl rfl (Y_neqA_f (eqg rfl) (und rfl) (und rfl) (siz rfl) rfl rfl (dl_length _ _ _) rfl) ?_
  refine D0_val rfl rfl rfl (Y_pick_f rfl rfl) ?_
  refine D0_val rfl rfl rfl (Y_move rfl) ?_
  refine D0_valM rfl rfl rfl (Y_loadAI 0 (und rfl) rfl rfl rfl (siz rfl) (dl_length _ _ _)) ?_
  refine D0_valM rfl rfl rfl (Y_loadAI 1 (und rfl) rfl rfl rfl (siz rfl) (dl_length _ _ _)) ?_
  refine D0_callV rfl rfl (bod rfl) (fun w hs => l2 _) rfl rfl ?_
  refine D0_valM rfl rfl rfl (Y_loadAI 1 (und rfl) rfl rfl rfl (siz rfl) (dl_length _ _ _)) ?_
  refine D0_valM rfl rfl rfl (Y_loadAI 0 (und rfl) rfl rfl rfl (siz rfl) (dl_length _ _ _)) ?_
  refine D0_callV rfl rfl (bod rfl) (fun w hs => g2 _) rfl rfl ?_
  refine D0_val rfl rfl rfl (Y_neqA_f (eqg rfl) (und rfl) (und rfl) (siz rfl) rfl rfl (dl_length _ _ _) rfl) ?_
  refine D0_val rfl rfl rfl (Y_pick_f rfl rfl) ?_
  refine D0_nil ?_
  refine X_seq ?_
  refine T_cond_false rfl ?_
  refine T_skip ?_
  refine X_seq ?_
  refine T_seq ?_
  refine T_draw (by kernel_rfl) (by kernel_rfl) rfl ?_
  refine D0_callV rfl rfl (bod rfl) (fun w hs => afixed_any _) rfl rfl ?_
  refine D0_val rfl rfl rfl (Y_move rfl) ?_
  refine D0_valM rfl rfl rfl (Y_loadAI 0 (und rfl) rfl rfl rfl (siz rfl) (dl_length _ _ _)) ?_
  refine D0_valM rfl rfl rfl (Y_loadAI 1 (und rfl) rfl rfl rfl (siz rfl) (dl_length _ _ _)) ?_
  refine D0_callV rfl rfl (bod rfl) (fun w hs => l1 _) rfl rfl ?_
  refine D0_valM rfl rfl rfl (Y_loadAI 0 (und rfl) rfl rfl rfl (siz rfl) (dl_length _ _ _)) ?_
  refine D0_valM rfl rfl rfl (Y_loadAI 1 (und rfl) rfl rfl rfl (siz rfl) (dl_length _ _ _)) ?_
  refine D0_callV rfl rfl (bod rfl) (fun w hs => g3 _) rfl rfl ?_
  skip
  refine D0_callV rfl rfl (bod rfl) (fun w hs => p1 _) rfl rfl ?_
  refine D0_valM rfl rfl rfl (Y_loadAI 0 (und rfl) rfl rfl rfl (siz rfl) (dl_length _ _ _)) ?_
  refine D0_valM rfl rfl rfl (Y_loadAI 1 (und rfl) rfl rfl rfl (siz rfl) (dl_length _ _ _)) ?_
  refine D0_callV rfl rfl (bod rfl) (fun w hs => q1 _) rfl rfl ?_
  skip
  refine D0_callV rfl rfl (bod rfl) (fun w hs => p2 _) rfl rfl ?_
  refine D0_valM rfl rfl rfl (Y_loadAI 2 (und rfl) rfl rfl rfl (siz rfl) (dl_length _ _ _)) ?_
  refine D0_val rfl rfl rfl (Y_eqlA_t (eqg rfl) (und rfl) (und rfl) (siz rfl) rfl rfl (dl_length _ _ _) rfl) ?_
  refine D0_val rfl rfl rfl (Y_pick_t rfl rfl) ?_
  refine D0_val rfl rfl rfl (Y_assign rfl) ?_
  refine D0_nil ?_
  refine X_seq ?_
  refine T_ret ?_
  ((first | refine X_fin_ret ?_ | refine X_fin ?_); exact ⟨[_], [], .cons (.tmp rfl) .nil, Emb.nil _, rfl, rfl⟩)
end Go.Proofs.Ytchoncjikdfbgaa
