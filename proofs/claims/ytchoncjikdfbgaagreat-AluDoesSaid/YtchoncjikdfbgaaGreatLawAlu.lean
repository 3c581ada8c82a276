import Derived.Test.YtchoncjikdfbgaaGreatAlu2
import Derived.Test.YtchoncjikdfbgaaGreatRef1
/- Package alu: the chapter's examples, and the laws AluFew and AluAlike. -/
namespace Go.Proofs.YtchoncjikdfbgaaGreat
open Go.RowKit
set_option maxRecDepth 20000
set_option maxHeartbeats 4000000

theorem Wv {n : Nat} (hn : n < 18446744073709551616) : (Value.agg (ints .u64 (fillI (List.replicate 4 0) [(0, (n : Int))]))) = W n := by unfold W; rw [w_of hn]
theorem w_lit5 : fillI (List.replicate 4 (0 : Int)) [(0, 5)] = dl 18446744073709551616 4 5 := w_of (n := 5) (by omega)
theorem w_lit7 : fillI (List.replicate 4 (0 : Int)) [(0, 7)] = dl 18446744073709551616 4 7 := w_of (n := 7) (by omega)
theorem w_lit8 : fillI (List.replicate 4 (0 : Int)) [(0, 8)] = dl 18446744073709551616 4 8 := w_of (n := 8) (by omega)
theorem w_lit1 : fillI (List.replicate 4 (0 : Int)) [(0, 1)] = dl 18446744073709551616 4 1 := w_of (n := 1) (by omega)
theorem w_lit2 : fillI (List.replicate 4 (0 : Int)) [(0, 2)] = dl 18446744073709551616 4 2 := w_of (n := 2) (by omega)
theorem w_lit256 : fillI (List.replicate 4 (0 : Int)) [(0, 256)] = dl 18446744073709551616 4 256 := w_of (n := 256) (by omega)
theorem d_two : (Value.agg (ints .i64 (fillI (List.replicate 32 0) [(0, 2)]))) = D 2 := by kernel_rfl
theorem afixed_any (w : World) : Fn Tryz.prog 6 #[] w fun v N => v = .bool true ∧ N = [] := by
  obtain ⟨M, hM⟩ : ∃ m, (5 + 2 ^ 256 - 7) % 2 ^ 256 = m := ⟨_, rfl⟩
  have d1 := do_sub 5 7 0 (by omega) (by omega)
  have d2 := do_shl 8 1 0 (by omega) (by omega)
  have d3 := do_lt 1 2 0 (by omega) (by omega)
  have ng := rneg_any 2 (by omega)
  rw [hM] at d1
  rw [show (2 ^ 256 - 2) % 2 ^ 256 = M by omega] at ng
  rw [show 1 * 2 ^ min 8 256 % 2 ^ 256 = 256 by decide +kernel] at d2
  rw [show bN (decide (1 < 2)) = 1 by decide] at d3
  rw [← d_two] at ng
  have e1 := w_lit1
  have e2 := w_lit256
  clear hM
  refine Fn_of (args := []) Tryz.func6 rfl Tryz.ntmps6 Tryz.results6 (by simp) ?_
  refine T_seq ?_
  refine T_region ?_
  refine S_val rfl rfl (Y_assign rfl) ?_
  refine S_nil ?_
  refine X_seq ?_
  refine T_seq ?_
  refine T_region ?_
  refine S_val rfl rfl (Y_build (und rfl) (siz rfl) (zer rfl) rfl rfl) ?_
  refine S_val rfl rfl (Y_build (und rfl) (siz rfl) (zer rfl) rfl rfl) ?_
  refine S_val rfl rfl (Y_build (und rfl) (siz rfl) (zer rfl) rfl rfl) ?_
  rw [w_lit5, w_lit7, w_zero]
  refine S_callV rfl rfl (bod rfl) (fun w hs => d1 _) rfl rfl ?_
  refine S_val rfl rfl (Y_move rfl) ?_
  refine S_val rfl rfl (Y_extract rfl rfl) ?_
  refine S_val rfl rfl (Y_extract rfl rfl) ?_
  refine S_allocA (zer rfl) rfl rfl fun _ => ?_
  refine S_storeAI 0 (siz rfl) rfl rfl rfl rfl (dl_length _ _ _) rfl ?_
  refine S_val rfl rfl (Y_assign rfl) ?_
  refine S_nil ?_
  refine X_seq ?_
  refine T_seq ?_
  refine T_region ?_
  refine S_val rfl rfl (Y_build (und rfl) (siz rfl) (zer rfl) rfl rfl) ?_
  refine S_val rfl rfl (Y_build (und rfl) (siz rfl) (zer rfl) rfl rfl) ?_
  refine S_val rfl rfl (Y_build (und rfl) (siz rfl) (zer rfl) rfl rfl) ?_
  rw [w_lit8, w_lit1, w_zero]
  refine S_callV rfl rfl (bod rfl) (fun w hs => d2 _) rfl rfl ?_
  refine S_val rfl rfl (Y_move rfl) ?_
  refine S_val rfl rfl (Y_extract rfl rfl) ?_
  refine S_val rfl rfl (Y_extract rfl rfl) ?_
  refine S_allocA (zer rfl) rfl rfl fun _ => ?_
  refine S_storeAI 1 (siz rfl) rfl rfl rfl rfl (dl_length _ _ _) rfl ?_
  refine S_val rfl rfl (Y_assign rfl) ?_
  refine S_nil ?_
  refine X_seq ?_
  refine T_seq ?_
  refine T_region ?_
  refine S_val rfl rfl (Y_build (und rfl) (siz rfl) (zer rfl) rfl rfl) ?_
  refine S_val rfl rfl (Y_build (und rfl) (siz rfl) (zer rfl) rfl rfl) ?_
  refine S_val rfl rfl (Y_build (und rfl) (siz rfl) (zer rfl) rfl rfl) ?_
  rw [w_lit1, w_lit2, w_zero]
  refine S_callV rfl rfl (bod rfl) (fun w hs => d3 _) rfl rfl ?_
  refine S_val rfl rfl (Y_move rfl) ?_
  refine S_val rfl rfl (Y_extract rfl rfl) ?_
  refine S_val rfl rfl (Y_extract rfl rfl) ?_
  refine S_allocA (zer rfl) rfl rfl fun _ => ?_
  refine S_storeAI 2 (siz rfl) rfl rfl rfl rfl (dl_length _ _ _) rfl ?_
  refine S_val rfl rfl (Y_assign rfl) ?_
  refine S_nil ?_
  refine X_seq ?_
  refine T_seq ?_
  refine T_draw (by kernel_rfl) (by kernel_rfl) rfl ?_
  refine D0_valM rfl rfl rfl (Y_loadAI 0 (und rfl) rfl rfl rfl (siz rfl) (dl_length _ _ _)) ?_
  refine D0_val rfl rfl rfl (Y_build (und rfl) (siz rfl) (zer rfl) rfl rfl) ?_
  refine D0_callV rfl rfl (bod rfl) (fun w hs => ng _) rfl rfl ?_
  skip
  refine D0_callV rfl rfl (bod rfl) (fun w hs => rword_any M _) rfl rfl ?_
  have e1' := e1.symm
  have e2' := e2.symm
  refine D0_val rfl rfl rfl (Y_eqlA_t (eqg rfl) (und rfl) (und rfl) (siz rfl) rfl rfl (dl_length _ _ _) rfl) ?_
  refine D0_val rfl rfl rfl (Y_move rfl) ?_
  refine D0_val rfl rfl rfl (Y_move rfl) ?_
  refine D0_val rfl rfl rfl (Y_pick_t rfl rfl) ?_
  refine D0_val rfl rfl rfl (Y_move rfl) ?_
  refine D0_valM rfl rfl rfl (Y_loadAI 1 (und rfl) rfl rfl rfl (siz rfl) (dl_length _ _ _)) ?_
  refine D0_val rfl rfl rfl (Y_build (und rfl) (siz rfl) (zer rfl) rfl rfl) ?_
  refine D0_val rfl rfl rfl (Y_eqlA_t (eqg rfl) (und rfl) (und rfl) (siz rfl) rfl rfl (dl_length _ _ _) rfl) ?_
  refine D0_val rfl rfl rfl (Y_pick_t rfl rfl) ?_
  refine D0_val rfl rfl rfl (Y_move rfl) ?_
  refine D0_val rfl rfl rfl (Y_move rfl) ?_
  refine D0_val rfl rfl rfl (Y_pick_t rfl rfl) ?_
  refine D0_val rfl rfl rfl (Y_move rfl) ?_
  refine D0_valM rfl rfl rfl (Y_loadAI 2 (und rfl) rfl rfl rfl (siz rfl) (dl_length _ _ _)) ?_
  refine D0_val rfl rfl rfl (Y_build (und rfl) (siz rfl) (zer rfl) rfl rfl) ?_
  refine D0_val rfl rfl rfl (Y_eqlA_t (eqg rfl) (und rfl) (und rfl) (siz rfl) rfl rfl (dl_length _ _ _) rfl) ?_
  refine D0_val rfl rfl rfl (Y_pick_t rfl rfl) ?_
  refine D0_val rfl rfl rfl (Y_move rfl) ?_
  refine D0_val rfl rfl rfl (Y_move rfl) ?_
  refine D0_val rfl rfl rfl (Y_pick_t rfl rfl) ?_
  refine D0_val rfl rfl rfl (Y_assign rfl) ?_
  refine D0_nil ?_
  refine X_seq ?_
  refine T_ret ?_
  ((first | refine X_fin_ret ?_ | refine X_fin ?_); exact ⟨[_], [], .cons (.tmp rfl) .nil, Emb.nil _, rfl, rfl⟩)
theorem few_do (op : Nat) : ∃ (f : Nat → Nat → Nat → Nat) (ok : Bool), (∀ a b c, a < 2 ^ 256 → b < 2 ^ 256 → c < 2 ^ 256 → ∀ w, Fn Tryz.prog 4 #[.int .u8 op, W a, W b, W c] w fun v N => v = .tuple #[W (f a b c), .bool ok] ∧ N = []) ∧
    (tkN op ≤ 2 → ∀ a b c d, f a b c = f a b d) ∧ (tkN op ≤ 1 → ∀ a b c d, f a b c = f a d c) := by
  rcases (show op = 1 ∨ op = 2 ∨ op = 3 ∨ op = 4 ∨ op = 5 ∨ op = 6 ∨ op = 7 ∨ op = 10 ∨ op = 11 ∨ op = 16 ∨ op = 17 ∨ op = 18 ∨ op = 19 ∨ op = 20 ∨ op = 21 ∨ op = 22 ∨ op = 23 ∨ op = 24 ∨ op = 25 ∨ op = 26 ∨ op = 27 ∨ op = 28 ∨ op = 29 ∨ op = 8 ∨ op = 9 ∨ notOp op by unfold notOp; omega) with rfl | rfl | rfl | rfl | rfl | rfl | rfl | rfl | rfl | rfl | rfl | rfl | rfl | rfl | rfl | rfl | rfl | rfl | rfl | rfl | rfl | rfl | rfl | rfl | rfl | h
  · exact ⟨fun a b _ => (a + b) % 2 ^ 256, true, fun a b c ha hb _ w => do_add a b c ha hb w, fun _ _ _ _ _ => rfl, fun h => absurd h (by decide)⟩
  · exact ⟨fun a b _ => a * b % 2 ^ 256, true, fun a b c ha hb _ w => do_mul a b c ha hb w, fun _ _ _ _ _ => rfl, fun h => absurd h (by decide)⟩
  · exact ⟨fun a b _ => (a + 2 ^ 256 - b) % 2 ^ 256, true, fun a b c ha hb _ w => do_sub a b c ha hb w, fun _ _ _ _ _ => rfl, fun h => absurd h (by decide)⟩
  · exact ⟨fun a b _ => a / b, true, fun a b c ha hb _ w => do_div a b c ha hb w, fun _ _ _ _ _ => rfl, fun h => absurd h (by decide)⟩
  · exact ⟨fun a b _ => sdq (sgn a) (sgn b) (absN a / absN b), true, fun a b c ha hb _ w => do_sdiv a b c ha hb w, fun _ _ _ _ _ => rfl, fun h => absurd h (by decide)⟩
  · exact ⟨fun a b _ => remN a b, true, fun a b c ha hb _ w => do_mod a b c ha hb w, fun _ _ _ _ _ => rfl, fun h => absurd h (by decide)⟩
  · exact ⟨fun a b _ => sdr (sgn a) (remN (absN a) (absN b)), true, fun a b c ha hb _ w => do_smod a b c ha hb w, fun _ _ _ _ _ => rfl, fun h => absurd h (by decide)⟩
  · exact ⟨fun a b _ => expN a b, true, fun a b c ha hb _ w => do_exp a b c ha hb w, fun _ _ _ _ _ => rfl, fun h => absurd h (by decide)⟩
  · exact ⟨fun a b _ => extN a b, true, fun a b c ha hb _ w => do_extend a b c ha hb w, fun _ _ _ _ _ => rfl, fun h => absurd h (by decide)⟩
  · exact ⟨fun a b _ => bN (decide (a < b)), true, fun a b c ha hb _ w => do_lt a b c ha hb w, fun _ _ _ _ _ => rfl, fun h => absurd h (by decide)⟩
  · exact ⟨fun a b _ => bN (decide (b < a)), true, fun a b c ha hb _ w => do_gt a b c ha hb w, fun _ _ _ _ _ => rfl, fun h => absurd h (by decide)⟩
  · exact ⟨fun a b _ => bN (slt a b), true, fun a b c ha hb _ w => do_slt a b c ha hb w, fun _ _ _ _ _ => rfl, fun h => absurd h (by decide)⟩
  · exact ⟨fun a b _ => bN (slt b a), true, fun a b c ha hb _ w => do_sgt a b c ha hb w, fun _ _ _ _ _ => rfl, fun h => absurd h (by decide)⟩
  · exact ⟨fun a b _ => bN (decide (a = b)), true, fun a b c ha hb _ w => do_eq a b c ha hb w, fun _ _ _ _ _ => rfl, fun h => absurd h (by decide)⟩
  · exact ⟨fun a b _ => bN (decide (a = 0)), true, fun a b c ha hb _ w => do_iszero a b c ha hb w, fun _ _ _ _ _ => rfl, fun _ _ _ _ _ => rfl⟩
  · exact ⟨fun a b _ => a &&& b, true, fun a b c ha hb _ w => do_and a b c ha hb w, fun _ _ _ _ _ => rfl, fun h => absurd h (by decide)⟩
  · exact ⟨fun a b _ => a ||| b, true, fun a b c ha hb _ w => do_or a b c ha hb w, fun _ _ _ _ _ => rfl, fun h => absurd h (by decide)⟩
  · exact ⟨fun a b _ => a ^^^ b, true, fun a b c ha hb _ w => do_xor a b c ha hb w, fun _ _ _ _ _ => rfl, fun h => absurd h (by decide)⟩
  · exact ⟨fun a b _ => 2 ^ 256 - 1 - a, true, fun a b c ha hb _ w => do_not a b c ha hb w, fun _ _ _ _ _ => rfl, fun _ _ _ _ _ => rfl⟩
  · exact ⟨fun a b _ => if a < 32 then b / 256 ^ (31 - a) % 256 else 0, true, fun a b c ha hb _ w => do_byte a b c ha hb w, fun _ _ _ _ _ => rfl, fun h => absurd h (by decide)⟩
  · exact ⟨fun a b _ => b * 2 ^ min a 256 % 2 ^ 256, true, fun a b c ha hb _ w => do_shl a b c ha hb w, fun _ _ _ _ _ => rfl, fun h => absurd h (by decide)⟩
  · exact ⟨fun a b _ => b / 2 ^ min a 256, true, fun a b c ha hb _ w => do_shr a b c ha hb w, fun _ _ _ _ _ => rfl, fun h => absurd h (by decide)⟩
  · exact ⟨fun a b _ => sarN b (min a 256), true, fun a b c ha hb _ w => do_sar a b c ha hb w, fun _ _ _ _ _ => rfl, fun h => absurd h (by decide)⟩
  · exact ⟨fun a b c => remN (a + b) c, true, fun a b c ha hb hc w => do_addmod a b c ha hb hc w, fun h => absurd h (by decide), fun h => absurd h (by decide)⟩
  · exact ⟨fun a b c => remN (a * b) c, true, fun a b c ha hb hc w => do_mulmod a b c ha hb hc w, fun h => absurd h (by decide), fun h => absurd h (by decide)⟩
  · exact ⟨fun _ _ _ => 0, false, fun a b c _ _ _ w => do_none op a b c h w, fun _ _ _ _ _ => rfl, fun _ _ _ _ _ => rfl⟩
theorem xor_ones {a : Nat} (ha : a < 2 ^ 256) : a ^^^ (2 ^ 256 - 1) = 2 ^ 256 - 1 - a := by
  refine Nat.eq_of_testBit_eq fun i => ?_
  rw [Nat.testBit_xor, Nat.testBit_two_pow_sub_one, show 2 ^ 256 - 1 - a = 2 ^ 256 - (a + 1) by omega, Nat.testBit_two_pow_sub_succ ha]
  by_cases h : i < 256
  · rw [decide_eq_true h]; cases a.testBit i <;> rfl
  · have : a.testBit i = false := Nat.testBit_lt_two_pow (Nat.lt_of_lt_of_le ha (Nat.pow_le_pow_right (by omega) (by omega)))
    rw [decide_eq_false h, this]; rfl
theorem bN_lt (b : Bool) : bN b < 2 := by cases b <;> decide
theorem one_of (a b : Nat) : ((bN (decide (a < b)) + bN (decide (b < a))) % 2 ^ 256 + bN (decide (a = b))) % 2 ^ 256 = 1 := by
  rcases Nat.lt_trichotomy a b with h | h | h
  · rw [decide_eq_true h, decide_eq_false (show ¬ b < a by omega), decide_eq_false (show ¬ a = b by omega)]; decide +kernel
  · rw [decide_eq_false (show ¬ a < b by omega), decide_eq_false (show ¬ b < a by omega), decide_eq_true h]; decide +kernel
  · rw [decide_eq_false (show ¬ a < b by omega), decide_eq_true h, decide_eq_false (show ¬ a = b by omega)]; decide +kernel
end Go.Proofs.YtchoncjikdfbgaaGreat
