import Derived.Test.YtchoncjikdfbgaaGreatWide3
import Derived.Test.YtchoncjikdfbgaaGreatWord3
/- Signs: the program's. -/
namespace Go.Proofs.YtchoncjikdfbgaaGreat
open Go.RowKit
set_option maxRecDepth 20000
set_option maxHeartbeats 4000000

def sgn (a : Nat) : Bool := decide (2 ^ 255 ≤ a)
def negN (a : Nat) : Nat := (2 ^ 256 - a) % 2 ^ 256
def absN (a : Nat) : Nat := if sgn a = true then negN a else a
theorem sgn_bit {a : Nat} (ha : a < 2 ^ 256) : a.testBit 255 = sgn a := by
  unfold sgn
  rw [Nat.testBit_eq_decide_div_mod_eq]
  exact decide_eq_decide.2 ⟨fun _ => by omega, fun _ => by omega⟩
theorem negN_lt (a : Nat) : negN a < 2 ^ 256 := Nat.mod_lt _ (by omega)
theorem absN_lt {a : Nat} (ha : a < 2 ^ 256) : absN a < 2 ^ 256 := by
  unfold absN
  split
  · exact negN_lt a
  · exact ha
theorem remN_le (x y : Nat) : remN x y ≤ x := by
  unfold remN
  split
  · omega
  · exact Nat.mod_le _ _
theorem sbelow_any (a : Nat) (ha : a < 2 ^ 256) (w : World) : Fn Tryz.prog 99 #[W a] w fun v N => v = .bool (sgn a) ∧ N = [] := by
  have hb := fun w => bit_any a 255 ha (by omega) w
  rw [sgn_bit ha] at hb
  refine Fn_of (args := [W a]) Tryz.func99 rfl Tryz.ntmps99 Tryz.results99 (by simp) ?_
  refine T_seq ?_
  refine T_region ?_
  refine S_boxA rfl rfl rfl fun _ => ?_
  refine S_val rfl rfl (Y_assign rfl) ?_
  refine S_nil ?_
  refine X_seq ?_
  refine T_seq ?_
  refine T_region ?_
  refine S_val rfl rfl (Y_loadAI 0 (und rfl) rfl rfl rfl (siz rfl) (dl_length _ _ _)) ?_
  refine S_callV rfl rfl (bod rfl) (fun w hs => hb _) rfl rfl ?_
  refine S_val rfl rfl (Y_assign rfl) ?_
  refine S_nil ?_
  refine X_seq ?_
  refine T_ret ?_
  ((first | refine X_fin_ret ?_ | refine X_fin ?_); exact ⟨[_], [], .cons (.tmp rfl) .nil, Emb.nil _, rfl, rfl⟩)
theorem sneg_any (a : Nat) (ha : a < 2 ^ 256) (w : World) : Fn Tryz.prog 100 #[W a] w fun v N => v = W (negN a) ∧ N = [] := by
  have hb : ∀ w, Fn Tryz.prog 71 #[.agg (ints .u64 (fillI (List.replicate 4 0) [])), W a] w fun v N => v = W (negN a) ∧ N = [] := fun w => by
    have := sub_any 0 a (by omega) ha w
    rw [Nat.zero_add] at this
    unfold W at this ⊢
    rw [e_zero] at this
    exact this
  generalize negN a = r at *
  refine Fn_of (args := [W a]) Tryz.func100 rfl Tryz.ntmps100 Tryz.results100 (by simp) ?_
  refine T_seq ?_
  refine T_region ?_
  refine S_boxA rfl rfl rfl fun _ => ?_
  refine S_allocA (zer rfl) rfl rfl fun _ => ?_
  refine S_nil ?_
  refine X_seq ?_
  refine T_seq ?_
  refine T_region ?_
  refine S_val rfl rfl (Y_build (und rfl) (siz rfl) (zer rfl) rfl rfl) ?_
  refine S_val rfl rfl (Y_loadAI 0 (und rfl) rfl rfl rfl (siz rfl) (dl_length _ _ _)) ?_
  refine S_callV rfl rfl (bod rfl) (fun w hs => hb _) rfl rfl ?_
  refine S_storeAI 1 (siz rfl) rfl rfl rfl rfl (dl_length _ _ _) rfl ?_
  refine S_nil ?_
  refine X_seq ?_
  refine T_ret ?_
  ((first | refine X_fin_ret ?_ | refine X_fin ?_); exact ⟨[_], [], .cons (.agg 1 rfl (und rfl) rfl rfl (siz rfl)) .nil, Emb.nil _, rfl, rfl⟩)
theorem ssize_any (a : Nat) (ha : a < 2 ^ 256) (w : World) : Fn Tryz.prog 98 #[W a] w fun v N => v = W (absN a) ∧ N = [] := by
  have hb := sbelow_any a ha
  have hn := sneg_any a ha
  unfold absN
  generalize negN a = r at *
  generalize sgn a = s at *
  cases s
  · refine Fn_of (args := [W a]) Tryz.func98 rfl Tryz.ntmps98 Tryz.results98 (by simp) ?_
    refine T_seq ?_
    refine T_region ?_
    refine S_boxA rfl rfl rfl fun _ => ?_
    refine S_allocA (zer rfl) rfl rfl fun _ => ?_
    refine S_nil ?_
    refine X_seq ?_
    refine T_seq ?_
    refine T_seq ?_
    refine T_region ?_
    refine S_val rfl rfl (Y_loadAI 0 (und rfl) rfl rfl rfl (siz rfl) (dl_length _ _ _)) ?_
    refine S_callV rfl rfl (bod rfl) (fun w hs => hb _) rfl rfl ?_
    refine S_nil ?_
    refine X_seq ?_
    refine T_cond_false rfl ?_
    refine T_skip ?_
    refine X_seq ?_
    refine T_seq ?_
    refine T_region ?_
    refine S_val rfl rfl (Y_loadAI 0 (und rfl) rfl rfl rfl (siz rfl) (dl_length _ _ _)) ?_
    refine S_storeAI 1 (siz rfl) rfl rfl rfl rfl (dl_length _ _ _) rfl ?_
    refine S_nil ?_
    refine X_seq ?_
    refine T_ret ?_
    ((first | refine X_fin_ret ?_ | refine X_fin ?_); exact ⟨[_], [], .cons (.agg 1 rfl (und rfl) rfl rfl (siz rfl)) .nil, Emb.nil _, rfl, rfl⟩)
  · refine Fn_of (args := [W a]) Tryz.func98 rfl Tryz.ntmps98 Tryz.results98 (by simp) ?_
    refine T_seq ?_
    refine T_region ?_
    refine S_boxA rfl rfl rfl fun _ => ?_
    refine S_allocA (zer rfl) rfl rfl fun _ => ?_
    refine S_nil ?_
    refine X_seq ?_
    refine T_seq ?_
    refine T_seq ?_
    refine T_region ?_
    refine S_val rfl rfl (Y_loadAI 0 (und rfl) rfl rfl rfl (siz rfl) (dl_length _ _ _)) ?_
    refine S_callV rfl rfl (bod rfl) (fun w hs => hb _) rfl rfl ?_
    refine S_nil ?_
    refine X_seq ?_
    refine T_cond_true rfl ?_
    refine T_seq ?_
    refine T_region ?_
    refine S_val rfl rfl (Y_loadAI 0 (und rfl) rfl rfl rfl (siz rfl) (dl_length _ _ _)) ?_
    refine S_callV rfl rfl (bod rfl) (fun w hs => hn _) rfl rfl ?_
    refine S_storeAI 1 (siz rfl) rfl rfl rfl rfl (dl_length _ _ _) rfl ?_
    refine S_nil ?_
    refine X_seq ?_
    refine T_ret ?_
    refine X_seq_ret ?_
    ((first | refine X_fin_ret ?_ | refine X_fin ?_); exact ⟨[_], [], .cons (.agg 1 rfl (und rfl) rfl rfl (siz rfl)) .nil, Emb.nil _, rfl, rfl⟩)

/-- A quotient with signs; what is left. -/
def sdq (s t : Bool) (q : Nat) : Nat := match s, t with
  | false, false => q
  | true, true => q
  | _, _ => negN q
def sdr (s : Bool) (r : Nat) : Nat := match s with
  | true => negN r
  | false => r
theorem sdiv_any (a b : Nat) (ha : a < 2 ^ 256) (hb : b < 2 ^ 256) (w : World) :
    Fn Tryz.prog 72 #[W a, W b] w fun v N => v = .tuple #[W (sdq (sgn a) (sgn b) (absN a / absN b)), W (sdr (sgn a) (remN (absN a) (absN b)))] ∧ N = [] := by
  have sa := ssize_any a ha
  have sb := ssize_any b hb
  have ba := sbelow_any a ha
  have bb := sbelow_any b hb
  have la := absN_lt ha
  have dv := wdiv_any (absN a) (absN b) la (absN_lt hb)
  have nq := sneg_any (absN a / absN b) (Nat.lt_of_le_of_lt (Nat.div_le_self _ _) la)
  have nr := sneg_any (remN (absN a) (absN b)) (Nat.lt_of_le_of_lt (remN_le _ _) la)
  clear la
  generalize absN a / absN b = q at *
  generalize remN (absN a) (absN b) = r at *
  generalize absN a = A at *
  generalize absN b = B at *
  generalize sgn a = s at *
  generalize sgn b = t at *
  unfold sdq sdr
  generalize hq2 : negN q = q2 at *
  generalize hr2 : negN r = r2 at *
  cases s
  · cases t
    · skip
      refine Fn_of (args := [W a, W b]) Tryz.func72 rfl Tryz.ntmps72 Tryz.results72 (by simp) ?_
      refine T_seq ?_
      refine T_region ?_
      refine S_boxA rfl rfl rfl fun _ => ?_
      refine S_boxA rfl rfl rfl fun _ => ?_
      refine S_allocA (zer rfl) rfl rfl fun _ => ?_
      refine S_allocA (zer rfl) rfl rfl fun _ => ?_
      refine S_nil ?_
      refine X_seq ?_
      refine T_seq ?_
      rename_i b0 b1 b2 b3
      refine T_drawL (.succ (.succ (.succ (.succ (.succ (.succ (.succ (.succ .zero)))))))) [.no, .no, .nw 8 (.cells (ints .u64 (List.replicate 4 0)) 24), .nw 9 (.cells (ints .u64 (List.replicate 4 0)) 24)] [blk b0 (.cells (ints .u64 (dl 18446744073709551616 4 (a))) 24 (0, 0)), blk b1 (.cells (ints .u64 (dl 18446744073709551616 4 (b))) 24 (0, 0)), blk b2 (.cells (ints .u64 (List.replicate 4 0)) 24 (0, 0)), blk b3 (.cells (ints .u64 (List.replicate 4 0)) 24 (0, 0))] rfl (by kernel_rfl) (Emb.idx [0, 1, 2, 3] rfl rfl) rfl (by kernel_rfl) ?_
      refine D0_valM rfl rfl rfl (Y_loadAI 0 (und rfl) rfl rfl rfl (siz rfl) (dl_length _ _ _)) ?_
      refine D0_callV rfl rfl (bod rfl) (fun w hs => sa _) rfl rfl ?_
      refine D0_valM rfl rfl rfl (Y_loadAI 1 (und rfl) rfl rfl rfl (siz rfl) (dl_length _ _ _)) ?_
      refine D0_callV rfl rfl (bod rfl) (fun w hs => sb _) rfl rfl ?_
      skip
      refine D0_callV rfl rfl (bod rfl) (fun w hs => dv _) rfl rfl ?_
      refine D0_val rfl rfl rfl (Y_move rfl) ?_
      refine D0_val rfl rfl rfl (Y_extract rfl rfl) ?_
      refine D0_val rfl rfl rfl (Y_extract rfl rfl) ?_
      refine D0_nilL ?_
      refine DL_allocA (zer rfl) rfl rfl rfl rfl rfl rfl ?_
      refine DL_allocA (zer rfl) rfl rfl rfl rfl rfl rfl ?_
      refine DL_storeAI rfl (fun _ => rfl) rfl (siz rfl) (fun _ => rfl) (fun _ => rfl) rfl (dl_length _ _ _) ?_
      refine DL_storeAI rfl (fun _ => rfl) rfl (siz rfl) (fun _ => rfl) (fun _ => rfl) rfl (dl_length _ _ _) ?_
      refine DL_nil fun _ => ?_
      refine X_seq ?_
      refine T_seq ?_
      refine T_seq ?_
      refine T_draw (by kernel_rfl) (by kernel_rfl) rfl ?_
      refine D0_valM rfl rfl rfl (Y_loadAI 0 (und rfl) rfl rfl rfl (siz rfl) (dl_length _ _ _)) ?_
      refine D0_callV rfl rfl (bod rfl) (fun w hs => ba _) rfl rfl ?_
      refine D0_valM rfl rfl rfl (Y_loadAI 1 (und rfl) rfl rfl rfl (siz rfl) (dl_length _ _ _)) ?_
      refine D0_callV rfl rfl (bod rfl) (fun w hs => bb _) rfl rfl ?_
      refine D0_val rfl rfl rfl (Y_neqB_f (und rfl) rfl rfl) ?_
      refine D0_nil ?_
      refine X_seq ?_
      refine T_cond_false rfl ?_
      refine T_skip ?_
      refine X_seq ?_
      refine T_seq ?_
      refine T_seq ?_
      refine T_region ?_
      refine S_val rfl rfl (Y_loadAI 0 (und rfl) rfl rfl rfl (siz rfl) (dl_length _ _ _)) ?_
      refine S_callV rfl rfl (bod rfl) (fun w hs => ba _) rfl rfl ?_
      refine S_nil ?_
      refine X_seq ?_
      refine T_cond_false rfl ?_
      refine T_skip ?_
      refine X_seq ?_
      refine T_seq ?_
      refine T_drawL (.succ (.succ .zero)) [.fx (blk b2 (.cells (ints .u64 (List.replicate 4 0)) 24 (0, 0))), .fx (blk b3 (.cells (ints .u64 (List.replicate 4 0)) 24 (0, 0)))] [blk b0 (.cells (ints .u64 (dl 18446744073709551616 4 (a))) 24 (0, 0)), blk b1 (.cells (ints .u64 (dl 18446744073709551616 4 (b))) 24 (0, 0)), blk _ (.cells (ints .u64 (dl 18446744073709551616 4 (q))) 24 (0, 0)), blk _ (.cells (ints .u64 (dl 18446744073709551616 4 (r))) 24 (0, 0))] rfl (by kernel_rfl) (Emb.idx [0, 1, 4, 5, 2, 3] rfl rfl) rfl (by kernel_rfl) ?_
      refine D0_valM rfl rfl rfl (Y_loadAI 2 (und rfl) rfl rfl rfl (siz rfl) (dl_length _ _ _)) ?_
      refine D0_valM rfl rfl rfl (Y_loadAI 3 (und rfl) rfl rfl rfl (siz rfl) (dl_length _ _ _)) ?_
      refine D0_nilL ?_
      refine DL_storeAI rfl (fun _ => rfl) rfl (siz rfl) (fun _ => rfl) (fun _ => rfl) rfl (dl_length _ _ _) ?_
      refine DL_storeAI rfl (fun _ => rfl) rfl (siz rfl) (fun _ => rfl) (fun _ => rfl) rfl (dl_length _ _ _) ?_
      refine DL_nil fun _ => ?_
      refine X_seq ?_
      refine T_ret ?_
      ((first | refine X_fin_ret ?_ | refine X_fin ?_); exact ⟨[_, _], [], .cons (.agg 4 rfl (und rfl) rfl rfl (siz rfl)) (.cons (.agg 5 rfl (und rfl) rfl rfl (siz rfl)) .nil), Emb.nil _, rfl, rfl⟩)
    · skip
      refine Fn_of (args := [W a, W b]) Tryz.func72 rfl Tryz.ntmps72 Tryz.results72 (by simp) ?_
      refine T_seq ?_
      refine T_region ?_
      refine S_boxA rfl rfl rfl fun _ => ?_
      refine S_boxA rfl rfl rfl fun _ => ?_
      refine S_allocA (zer rfl) rfl rfl fun _ => ?_
      refine S_allocA (zer rfl) rfl rfl fun _ => ?_
      refine S_nil ?_
      refine X_seq ?_
      refine T_seq ?_
      rename_i b0 b1 b2 b3
      refine T_drawL (.succ (.succ (.succ (.succ (.succ (.succ (.succ (.succ .zero)))))))) [.no, .no, .nw 8 (.cells (ints .u64 (List.replicate 4 0)) 24), .nw 9 (.cells (ints .u64 (List.replicate 4 0)) 24)] [blk b0 (.cells (ints .u64 (dl 18446744073709551616 4 (a))) 24 (0, 0)), blk b1 (.cells (ints .u64 (dl 18446744073709551616 4 (b))) 24 (0, 0)), blk b2 (.cells (ints .u64 (List.replicate 4 0)) 24 (0, 0)), blk b3 (.cells (ints .u64 (List.replicate 4 0)) 24 (0, 0))] rfl (by kernel_rfl) (Emb.idx [0, 1, 2, 3] rfl rfl) rfl (by kernel_rfl) ?_
      refine D0_valM rfl rfl rfl (Y_loadAI 0 (und rfl) rfl rfl rfl (siz rfl) (dl_length _ _ _)) ?_
      refine D0_callV rfl rfl (bod rfl) (fun w hs => sa _) rfl rfl ?_
      refine D0_valM rfl rfl rfl (Y_loadAI 1 (und rfl) rfl rfl rfl (siz rfl) (dl_length _ _ _)) ?_
      refine D0_callV rfl rfl (bod rfl) (fun w hs => sb _) rfl rfl ?_
      skip
      refine D0_callV rfl rfl (bod rfl) (fun w hs => dv _) rfl rfl ?_
      refine D0_val rfl rfl rfl (Y_move rfl) ?_
      refine D0_val rfl rfl rfl (Y_extract rfl rfl) ?_
      refine D0_val rfl rfl rfl (Y_extract rfl rfl) ?_
      refine D0_nilL ?_
      refine DL_allocA (zer rfl) rfl rfl rfl rfl rfl rfl ?_
      refine DL_allocA (zer rfl) rfl rfl rfl rfl rfl rfl ?_
      refine DL_storeAI rfl (fun _ => rfl) rfl (siz rfl) (fun _ => rfl) (fun _ => rfl) rfl (dl_length _ _ _) ?_
      refine DL_storeAI rfl (fun _ => rfl) rfl (siz rfl) (fun _ => rfl) (fun _ => rfl) rfl (dl_length _ _ _) ?_
      refine DL_nil fun _ => ?_
      refine X_seq ?_
      refine T_seq ?_
      refine T_seq ?_
      refine T_draw (by kernel_rfl) (by kernel_rfl) rfl ?_
      refine D0_valM rfl rfl rfl (Y_loadAI 0 (und rfl) rfl rfl rfl (siz rfl) (dl_length _ _ _)) ?_
      refine D0_callV rfl rfl (bod rfl) (fun w hs => ba _) rfl rfl ?_
      refine D0_valM rfl rfl rfl (Y_loadAI 1 (und rfl) rfl rfl rfl (siz rfl) (dl_length _ _ _)) ?_
      refine D0_callV rfl rfl (bod rfl) (fun w hs => bb _) rfl rfl ?_
      refine D0_val rfl rfl rfl (Y_neqB (und rfl) rfl rfl) ?_
      refine D0_nil ?_
      refine X_seq ?_
      refine T_cond_true rfl ?_
      refine T_region ?_
      refine S_val rfl rfl (Y_loadAI 4 (und rfl) rfl rfl rfl (siz rfl) (dl_length _ _ _)) ?_
      refine S_callV rfl rfl (bod rfl) (fun w hs => nq _) rfl rfl ?_
      refine S_storeAI 4 (siz rfl) rfl rfl rfl (dl_length _ _ _) (dl_length _ _ _) rfl ?_
      refine S_nil ?_
      refine X_seq ?_
      refine T_seq ?_
      refine T_seq ?_
      refine T_region ?_
      refine S_val rfl rfl (Y_loadAI 0 (und rfl) rfl rfl rfl (siz rfl) (dl_length _ _ _)) ?_
      refine S_callV rfl rfl (bod rfl) (fun w hs => ba _) rfl rfl ?_
      refine S_nil ?_
      refine X_seq ?_
      refine T_cond_false rfl ?_
      refine T_skip ?_
      refine X_seq ?_
      refine T_seq ?_
      refine T_drawL (.succ (.succ .zero)) [.fx (blk b2 (.cells (ints .u64 (List.replicate 4 0)) 24 (0, 0))), .fx (blk b3 (.cells (ints .u64 (List.replicate 4 0)) 24 (0, 0)))] [blk b0 (.cells (ints .u64 (dl 18446744073709551616 4 (a))) 24 (0, 0)), blk b1 (.cells (ints .u64 (dl 18446744073709551616 4 (b))) 24 (0, 0)), blk _ (.cells (ints .u64 (dl 18446744073709551616 4 (q2))) 24 (0, 0)), blk _ (.cells (ints .u64 (dl 18446744073709551616 4 (r))) 24 (0, 0))] rfl (by kernel_rfl) (Emb.idx [0, 1, 4, 5, 2, 3] rfl rfl) rfl (by kernel_rfl) ?_
      refine D0_valM rfl rfl rfl (Y_loadAI 2 (und rfl) rfl rfl rfl (siz rfl) (dl_length _ _ _)) ?_
      refine D0_valM rfl rfl rfl (Y_loadAI 3 (und rfl) rfl rfl rfl (siz rfl) (dl_length _ _ _)) ?_
      refine D0_nilL ?_
      refine DL_storeAI rfl (fun _ => rfl) rfl (siz rfl) (fun _ => rfl) (fun _ => rfl) rfl (dl_length _ _ _) ?_
      refine DL_storeAI rfl (fun _ => rfl) rfl (siz rfl) (fun _ => rfl) (fun _ => rfl) rfl (dl_length _ _ _) ?_
      refine DL_nil fun _ => ?_
      refine X_seq ?_
      refine T_ret ?_
      ((first | refine X_fin_ret ?_ | refine X_fin ?_); exact ⟨[_, _], [], .cons (.agg 4 rfl (und rfl) rfl rfl (siz rfl)) (.cons (.agg 5 rfl (und rfl) rfl rfl (siz rfl)) .nil), Emb.nil _, rfl, rfl⟩)
  · cases t
    · skip
      refine Fn_of (args := [W a, W b]) Tryz.func72 rfl Tryz.ntmps72 Tryz.results72 (by simp) ?_
      refine T_seq ?_
      refine T_region ?_
      refine S_boxA rfl rfl rfl fun _ => ?_
      refine S_boxA rfl rfl rfl fun _ => ?_
      refine S_allocA (zer rfl) rfl rfl fun _ => ?_
      refine S_allocA (zer rfl) rfl rfl fun _ => ?_
      refine S_nil ?_
      refine X_seq ?_
      refine T_seq ?_
      rename_i b0 b1 b2 b3
      refine T_drawL (.succ (.succ (.succ (.succ (.succ (.succ (.succ (.succ .zero)))))))) [.no, .no, .nw 8 (.cells (ints .u64 (List.replicate 4 0)) 24), .nw 9 (.cells (ints .u64 (List.replicate 4 0)) 24)] [blk b0 (.cells (ints .u64 (dl 18446744073709551616 4 (a))) 24 (0, 0)), blk b1 (.cells (ints .u64 (dl 18446744073709551616 4 (b))) 24 (0, 0)), blk b2 (.cells (ints .u64 (List.replicate 4 0)) 24 (0, 0)), blk b3 (.cells (ints .u64 (List.replicate 4 0)) 24 (0, 0))] rfl (by kernel_rfl) (Emb.idx [0, 1, 2, 3] rfl rfl) rfl (by kernel_rfl) ?_
      refine D0_valM rfl rfl rfl (Y_loadAI 0 (und rfl) rfl rfl rfl (siz rfl) (dl_length _ _ _)) ?_
      refine D0_callV rfl rfl (bod rfl) (fun w hs => sa _) rfl rfl ?_
      refine D0_valM rfl rfl rfl (Y_loadAI 1 (und rfl) rfl rfl rfl (siz rfl) (dl_length _ _ _)) ?_
      refine D0_callV rfl rfl (bod rfl) (fun w hs => sb _) rfl rfl ?_
      skip
      refine D0_callV rfl rfl (bod rfl) (fun w hs => dv _) rfl rfl ?_
      refine D0_val rfl rfl rfl (Y_move rfl) ?_
      refine D0_val rfl rfl rfl (Y_extract rfl rfl) ?_
      refine D0_val rfl rfl rfl (Y_extract rfl rfl) ?_
      refine D0_nilL ?_
      refine DL_allocA (zer rfl) rfl rfl rfl rfl rfl rfl ?_
      refine DL_allocA (zer rfl) rfl rfl rfl rfl rfl rfl ?_
      refine DL_storeAI rfl (fun _ => rfl) rfl (siz rfl) (fun _ => rfl) (fun _ => rfl) rfl (dl_length _ _ _) ?_
      refine DL_storeAI rfl (fun _ => rfl) rfl (siz rfl) (fun _ => rfl) (fun _ => rfl) rfl (dl_length _ _ _) ?_
      refine DL_nil fun _ => ?_
      refine X_seq ?_
      refine T_seq ?_
      refine T_seq ?_
      refine T_draw (by kernel_rfl) (by kernel_rfl) rfl ?_
      refine D0_valM rfl rfl rfl (Y_loadAI 0 (und rfl) rfl rfl rfl (siz rfl) (dl_length _ _ _)) ?_
      refine D0_callV rfl rfl (bod rfl) (fun w hs => ba _) rfl rfl ?_
      refine D0_valM rfl rfl rfl (Y_loadAI 1 (und rfl) rfl rfl rfl (siz rfl) (dl_length _ _ _)) ?_
      refine D0_callV rfl rfl (bod rfl) (fun w hs => bb _) rfl rfl ?_
      refine D0_val rfl rfl rfl (Y_neqB (und rfl) rfl rfl) ?_
      refine D0_nil ?_
      refine X_seq ?_
      refine T_cond_true rfl ?_
      refine T_region ?_
      refine S_val rfl rfl (Y_loadAI 4 (und rfl) rfl rfl rfl (siz rfl) (dl_length _ _ _)) ?_
      refine S_callV rfl rfl (bod rfl) (fun w hs => nq _) rfl rfl ?_
      refine S_storeAI 4 (siz rfl) rfl rfl rfl (dl_length _ _ _) (dl_length _ _ _) rfl ?_
      refine S_nil ?_
      refine X_seq ?_
      refine T_seq ?_
      refine T_seq ?_
      refine T_region ?_
      refine S_val rfl rfl (Y_loadAI 0 (und rfl) rfl rfl rfl (siz rfl) (dl_length _ _ _)) ?_
      refine S_callV rfl rfl (bod rfl) (fun w hs => ba _) rfl rfl ?_
      refine S_nil ?_
      refine X_seq ?_
      refine T_cond_true rfl ?_
      refine T_region ?_
      refine S_val rfl rfl (Y_loadAI 5 (und rfl) rfl rfl rfl (siz rfl) (dl_length _ _ _)) ?_
      refine S_callV rfl rfl (bod rfl) (fun w hs => nr _) rfl rfl ?_
      refine S_storeAI 5 (siz rfl) rfl rfl rfl (dl_length _ _ _) (dl_length _ _ _) rfl ?_
      refine S_nil ?_
      refine X_seq ?_
      refine T_seq ?_
      refine T_drawL (.succ (.succ .zero)) [.fx (blk b2 (.cells (ints .u64 (List.replicate 4 0)) 24 (0, 0))), .fx (blk b3 (.cells (ints .u64 (List.replicate 4 0)) 24 (0, 0)))] [blk b0 (.cells (ints .u64 (dl 18446744073709551616 4 (a))) 24 (0, 0)), blk b1 (.cells (ints .u64 (dl 18446744073709551616 4 (b))) 24 (0, 0)), blk _ (.cells (ints .u64 (dl 18446744073709551616 4 (q2))) 24 (0, 0)), blk _ (.cells (ints .u64 (dl 18446744073709551616 4 (r2))) 24 (0, 0))] rfl (by kernel_rfl) (Emb.idx [0, 1, 4, 5, 2, 3] rfl rfl) rfl (by kernel_rfl) ?_
      refine D0_valM rfl rfl rfl (Y_loadAI 2 (und rfl) rfl rfl rfl (siz rfl) (dl_length _ _ _)) ?_
      refine D0_valM rfl rfl rfl (Y_loadAI 3 (und rfl) rfl rfl rfl (siz rfl) (dl_length _ _ _)) ?_
      refine D0_nilL ?_
      refine DL_storeAI rfl (fun _ => rfl) rfl (siz rfl) (fun _ => rfl) (fun _ => rfl) rfl (dl_length _ _ _) ?_
      refine DL_storeAI rfl (fun _ => rfl) rfl (siz rfl) (fun _ => rfl) (fun _ => rfl) rfl (dl_length _ _ _) ?_
      refine DL_nil fun _ => ?_
      refine X_seq ?_
      refine T_ret ?_
      ((first | refine X_fin_ret ?_ | refine X_fin ?_); exact ⟨[_, _], [], .cons (.agg 4 rfl (und rfl) rfl rfl (siz rfl)) (.cons (.agg 5 rfl (und rfl) rfl rfl (siz rfl)) .nil), Emb.nil _, rfl, rfl⟩)
    · skip
      refine Fn_of (args := [W a, W b]) Tryz.func72 rfl Tryz.ntmps72 Tryz.results72 (by simp) ?_
      refine T_seq ?_
      refine T_region ?_
      refine S_boxA rfl rfl rfl fun _ => ?_
      refine S_boxA rfl rfl rfl fun _ => ?_
      refine S_allocA (zer rfl) rfl rfl fun _ => ?_
      refine S_allocA (zer rfl) rfl rfl fun _ => ?_
      refine S_nil ?_
      refine X_seq ?_
      refine T_seq ?_
      rename_i b0 b1 b2 b3
      refine T_drawL (.succ (.succ (.succ (.succ (.succ (.succ (.succ (.succ .zero)))))))) [.no, .no, .nw 8 (.cells (ints .u64 (List.replicate 4 0)) 24), .nw 9 (.cells (ints .u64 (List.replicate 4 0)) 24)] [blk b0 (.cells (ints .u64 (dl 18446744073709551616 4 (a))) 24 (0, 0)), blk b1 (.cells (ints .u64 (dl 18446744073709551616 4 (b))) 24 (0, 0)), blk b2 (.cells (ints .u64 (List.replicate 4 0)) 24 (0, 0)), blk b3 (.cells (ints .u64 (List.replicate 4 0)) 24 (0, 0))] rfl (by kernel_rfl) (Emb.idx [0, 1, 2, 3] rfl rfl) rfl (by kernel_rfl) ?_
      refine D0_valM rfl rfl rfl (Y_loadAI 0 (und rfl) rfl rfl rfl (siz rfl) (dl_length _ _ _)) ?_
      refine D0_callV rfl rfl (bod rfl) (fun w hs => sa _) rfl rfl ?_
      refine D0_valM rfl rfl rfl (Y_loadAI 1 (und rfl) rfl rfl rfl (siz rfl) (dl_length _ _ _)) ?_
      refine D0_callV rfl rfl (bod rfl) (fun w hs => sb _) rfl rfl ?_
      skip
      refine D0_callV rfl rfl (bod rfl) (fun w hs => dv _) rfl rfl ?_
      refine D0_val rfl rfl rfl (Y_move rfl) ?_
      refine D0_val rfl rfl rfl (Y_extract rfl rfl) ?_
      refine D0_val rfl rfl rfl (Y_extract rfl rfl) ?_
      refine D0_nilL ?_
      refine DL_allocA (zer rfl) rfl rfl rfl rfl rfl rfl ?_
      refine DL_allocA (zer rfl) rfl rfl rfl rfl rfl rfl ?_
      refine DL_storeAI rfl (fun _ => rfl) rfl (siz rfl) (fun _ => rfl) (fun _ => rfl) rfl (dl_length _ _ _) ?_
      refine DL_storeAI rfl (fun _ => rfl) rfl (siz rfl) (fun _ => rfl) (fun _ => rfl) rfl (dl_length _ _ _) ?_
      refine DL_nil fun _ => ?_
      refine X_seq ?_
      refine T_seq ?_
      refine T_seq ?_
      refine T_draw (by kernel_rfl) (by kernel_rfl) rfl ?_
      refine D0_valM rfl rfl rfl (Y_loadAI 0 (und rfl) rfl rfl rfl (siz rfl) (dl_length _ _ _)) ?_
      refine D0_callV rfl rfl (bod rfl) (fun w hs => ba _) rfl rfl ?_
      refine D0_valM rfl rfl rfl (Y_loadAI 1 (und rfl) rfl rfl rfl (siz rfl) (dl_length _ _ _)) ?_
      refine D0_callV rfl rfl (bod rfl) (fun w hs => bb _) rfl rfl ?_
      refine D0_val rfl rfl rfl (Y_neqB_f (und rfl) rfl rfl) ?_
      refine D0_nil ?_
      refine X_seq ?_
      refine T_cond_false rfl ?_
      refine T_skip ?_
      refine X_seq ?_
      refine T_seq ?_
      refine T_seq ?_
      refine T_region ?_
      refine S_val rfl rfl (Y_loadAI 0 (und rfl) rfl rfl rfl (siz rfl) (dl_length _ _ _)) ?_
      refine S_callV rfl rfl (bod rfl) (fun w hs => ba _) rfl rfl ?_
      refine S_nil ?_
      refine X_seq ?_
      refine T_cond_true rfl ?_
      refine T_region ?_
      refine S_val rfl rfl (Y_loadAI 5 (und rfl) rfl rfl rfl (siz rfl) (dl_length _ _ _)) ?_
      refine S_callV rfl rfl (bod rfl) (fun w hs => nr _) rfl rfl ?_
      refine S_storeAI 5 (siz rfl) rfl rfl rfl (dl_length _ _ _) (dl_length _ _ _) rfl ?_
      refine S_nil ?_
      refine X_seq ?_
      refine T_seq ?_
      refine T_drawL (.succ (.succ .zero)) [.fx (blk b2 (.cells (ints .u64 (List.replicate 4 0)) 24 (0, 0))), .fx (blk b3 (.cells (ints .u64 (List.replicate 4 0)) 24 (0, 0)))] [blk b0 (.cells (ints .u64 (dl 18446744073709551616 4 (a))) 24 (0, 0)), blk b1 (.cells (ints .u64 (dl 18446744073709551616 4 (b))) 24 (0, 0)), blk _ (.cells (ints .u64 (dl 18446744073709551616 4 (q))) 24 (0, 0)), blk _ (.cells (ints .u64 (dl 18446744073709551616 4 (r2))) 24 (0, 0))] rfl (by kernel_rfl) (Emb.idx [0, 1, 4, 5, 2, 3] rfl rfl) rfl (by kernel_rfl) ?_
      refine D0_valM rfl rfl rfl (Y_loadAI 2 (und rfl) rfl rfl rfl (siz rfl) (dl_length _ _ _)) ?_
      refine D0_valM rfl rfl rfl (Y_loadAI 3 (und rfl) rfl rfl rfl (siz rfl) (dl_length _ _ _)) ?_
      refine D0_nilL ?_
      refine DL_storeAI rfl (fun _ => rfl) rfl (siz rfl) (fun _ => rfl) (fun _ => rfl) rfl (dl_length _ _ _) ?_
      refine DL_storeAI rfl (fun _ => rfl) rfl (siz rfl) (fun _ => rfl) (fun _ => rfl) rfl (dl_length _ _ _) ?_
      refine DL_nil fun _ => ?_
      refine X_seq ?_
      refine T_ret ?_
      ((first | refine X_fin_ret ?_ | refine X_fin ?_); exact ⟨[_, _], [], .cons (.agg 4 rfl (und rfl) rfl rfl (siz rfl)) (.cons (.agg 5 rfl (und rfl) rfl rfl (siz rfl)) .nil), Emb.nil _, rfl, rfl⟩)
def slt (a b : Nat) : Bool := decide ((a + 2 ^ 255) % 2 ^ 256 < (b + 2 ^ 255) % 2 ^ 256)
theorem slt_ne {a b : Nat} (ha : a < 2 ^ 256) (hb : b < 2 ^ 256) (h : sgn a ≠ sgn b) : slt a b = sgn a := by
  unfold sgn at h ⊢
  unfold slt
  refine decide_eq_decide.2 ?_
  by_cases h1 : 2 ^ 255 ≤ a <;> by_cases h2 : 2 ^ 255 ≤ b
  · simp [h1, h2] at h
  · constructor <;> intro <;> omega
  · constructor <;> intro <;> omega
  · simp [h1, h2] at h
theorem slt_eq {a b : Nat} (ha : a < 2 ^ 256) (hb : b < 2 ^ 256) (h : sgn a = sgn b) : decide (cmpI a b < 0) = slt a b := by
  unfold sgn at h
  have h := decide_eq_decide.1 h
  unfold slt cmpI
  refine decide_eq_decide.2 ?_
  by_cases h1 : a < b
  · rw [if_pos h1]; constructor <;> intro <;> omega
  · rw [if_neg h1]
    split <;> constructor <;> intro <;> omega
theorem sless_any (a b : Nat) (ha : a < 2 ^ 256) (hb : b < 2 ^ 256) (w : World) : Fn Tryz.prog 76 #[W a, W b] w fun v N => v = .bool (slt a b) ∧ N = [] := by
  have ba := sbelow_any a ha
  have bb := sbelow_any b hb
  have e1 := slt_ne ha hb
  have e2 := slt_eq ha hb
  have cm := compare_any a b ha hb
  generalize slt a b = c at *
  generalize cmpI a b = m at *
  generalize sgn a = s at *
  generalize sgn b = t at *
  cases s
  · cases t
    · refine Fn_of (args := [W a, W b]) Tryz.func76 rfl Tryz.ntmps76 Tryz.results76 (by simp) ?_
      refine T_seq ?_
      refine T_region ?_
      refine S_boxA rfl rfl rfl fun _ => ?_
      refine S_boxA rfl rfl rfl fun _ => ?_
      refine S_val rfl rfl (Y_assign rfl) ?_
      refine S_nil ?_
      refine X_seq ?_
      refine T_seq ?_
      refine T_seq ?_
      refine T_draw (by kernel_rfl) (by kernel_rfl) rfl ?_
      refine D0_valM rfl rfl rfl (Y_loadAI 0 (und rfl) rfl rfl rfl (siz rfl) (dl_length _ _ _)) ?_
      refine D0_callV rfl rfl (bod rfl) (fun w hs => ba _) rfl rfl ?_
      refine D0_valM rfl rfl rfl (Y_loadAI 1 (und rfl) rfl rfl rfl (siz rfl) (dl_length _ _ _)) ?_
      refine D0_callV rfl rfl (bod rfl) (fun w hs => bb _) rfl rfl ?_
      refine D0_val rfl rfl rfl (Y_neqB_f (und rfl) rfl rfl) ?_
      refine D0_nil ?_
      refine X_seq ?_
      refine T_cond_false rfl ?_
      refine T_skip ?_
      refine X_seq ?_
      refine T_seq ?_
      refine T_region ?_
      refine S_val rfl rfl (Y_loadAI 0 (und rfl) rfl rfl rfl (siz rfl) (dl_length _ _ _)) ?_
      refine S_val rfl rfl (Y_loadAI 1 (und rfl) rfl rfl rfl (siz rfl) (dl_length _ _ _)) ?_
      refine S_callV rfl rfl (bod rfl) (fun w hs => cm _) rfl rfl ?_
      refine S_val rfl rfl (Y_lss rfl rfl) ?_
      refine S_val rfl rfl (Y_assign rfl) ?_
      refine S_nil ?_
      refine X_seq ?_
      refine T_ret ?_
      ((first | refine X_fin_ret ?_ | refine X_fin ?_); exact ⟨[_], [], .cons (.tmp rfl) .nil, Emb.nil _, congrArg Value.bool (e2 rfl), rfl⟩)
    · refine Fn_of (args := [W a, W b]) Tryz.func76 rfl Tryz.ntmps76 Tryz.results76 (by simp) ?_
      refine T_seq ?_
      refine T_region ?_
      refine S_boxA rfl rfl rfl fun _ => ?_
      refine S_boxA rfl rfl rfl fun _ => ?_
      refine S_val rfl rfl (Y_assign rfl) ?_
      refine S_nil ?_
      refine X_seq ?_
      refine T_seq ?_
      refine T_seq ?_
      refine T_draw (by kernel_rfl) (by kernel_rfl) rfl ?_
      refine D0_valM rfl rfl rfl (Y_loadAI 0 (und rfl) rfl rfl rfl (siz rfl) (dl_length _ _ _)) ?_
      refine D0_callV rfl rfl (bod rfl) (fun w hs => ba _) rfl rfl ?_
      refine D0_valM rfl rfl rfl (Y_loadAI 1 (und rfl) rfl rfl rfl (siz rfl) (dl_length _ _ _)) ?_
      refine D0_callV rfl rfl (bod rfl) (fun w hs => bb _) rfl rfl ?_
      refine D0_val rfl rfl rfl (Y_neqB (und rfl) rfl rfl) ?_
      refine D0_nil ?_
      refine X_seq ?_
      refine T_cond_true rfl ?_
      refine T_seq ?_
      refine T_region ?_
      refine S_val rfl rfl (Y_loadAI 0 (und rfl) rfl rfl rfl (siz rfl) (dl_length _ _ _)) ?_
      refine S_callV rfl rfl (bod rfl) (fun w hs => ba _) rfl rfl ?_
      refine S_val rfl rfl (Y_assign rfl) ?_
      refine S_nil ?_
      refine X_seq ?_
      refine T_ret ?_
      refine X_seq_ret ?_
      ((first | refine X_fin_ret ?_ | refine X_fin ?_); exact ⟨[_], [], .cons (.tmp rfl) .nil, Emb.nil _, congrArg Value.bool (e1 (by decide)).symm, rfl⟩)
  · cases t
    · refine Fn_of (args := [W a, W b]) Tryz.func76 rfl Tryz.ntmps76 Tryz.results76 (by simp) ?_
      refine T_seq ?_
      refine T_region ?_
      refine S_boxA rfl rfl rfl fun _ => ?_
      refine S_boxA rfl rfl rfl fun _ => ?_
      refine S_val rfl rfl (Y_assign rfl) ?_
      refine S_nil ?_
      refine X_seq ?_
      refine T_seq ?_
      refine T_seq ?_
      refine T_draw (by kernel_rfl) (by kernel_rfl) rfl ?_
      refine D0_valM rfl rfl rfl (Y_loadAI 0 (und rfl) rfl rfl rfl (siz rfl) (dl_length _ _ _)) ?_
      refine D0_callV rfl rfl (bod rfl) (fun w hs => ba _) rfl rfl ?_
      refine D0_valM rfl rfl rfl (Y_loadAI 1 (und rfl) rfl rfl rfl (siz rfl) (dl_length _ _ _)) ?_
      refine D0_callV rfl rfl (bod rfl) (fun w hs => bb _) rfl rfl ?_
      refine D0_val rfl rfl rfl (Y_neqB (und rfl) rfl rfl) ?_
      refine D0_nil ?_
      refine X_seq ?_
      refine T_cond_true rfl ?_
      refine T_seq ?_
      refine T_region ?_
      refine S_val rfl rfl (Y_loadAI 0 (und rfl) rfl rfl rfl (siz rfl) (dl_length _ _ _)) ?_
      refine S_callV rfl rfl (bod rfl) (fun w hs => ba _) rfl rfl ?_
      refine S_val rfl rfl (Y_assign rfl) ?_
      refine S_nil ?_
      refine X_seq ?_
      refine T_ret ?_
      refine X_seq_ret ?_
      ((first | refine X_fin_ret ?_ | refine X_fin ?_); exact ⟨[_], [], .cons (.tmp rfl) .nil, Emb.nil _, congrArg Value.bool (e1 (by decide)).symm, rfl⟩)
    · refine Fn_of (args := [W a, W b]) Tryz.func76 rfl Tryz.ntmps76 Tryz.results76 (by simp) ?_
      refine T_seq ?_
      refine T_region ?_
      refine S_boxA rfl rfl rfl fun _ => ?_
      refine S_boxA rfl rfl rfl fun _ => ?_
      refine S_val rfl rfl (Y_assign rfl) ?_
      refine S_nil ?_
      refine X_seq ?_
      refine T_seq ?_
      refine T_seq ?_
      refine T_draw (by kernel_rfl) (by kernel_rfl) rfl ?_
      refine D0_valM rfl rfl rfl (Y_loadAI 0 (und rfl) rfl rfl rfl (siz rfl) (dl_length _ _ _)) ?_
      refine D0_callV rfl rfl (bod rfl) (fun w hs => ba _) rfl rfl ?_
      refine D0_valM rfl rfl rfl (Y_loadAI 1 (und rfl) rfl rfl rfl (siz rfl) (dl_length _ _ _)) ?_
      refine D0_callV rfl rfl (bod rfl) (fun w hs => bb _) rfl rfl ?_
      refine D0_val rfl rfl rfl (Y_neqB_f (und rfl) rfl rfl) ?_
      refine D0_nil ?_
      refine X_seq ?_
      refine T_cond_false rfl ?_
      refine T_skip ?_
      refine X_seq ?_
      refine T_seq ?_
      refine T_region ?_
      refine S_val rfl rfl (Y_loadAI 0 (und rfl) rfl rfl rfl (siz rfl) (dl_length _ _ _)) ?_
      refine S_val rfl rfl (Y_loadAI 1 (und rfl) rfl rfl rfl (siz rfl) (dl_length _ _ _)) ?_
      refine S_callV rfl rfl (bod rfl) (fun w hs => cm _) rfl rfl ?_
      refine S_val rfl rfl (Y_lss rfl rfl) ?_
      refine S_val rfl rfl (Y_assign rfl) ?_
      refine S_nil ?_
      refine X_seq ?_
      refine T_ret ?_
      ((first | refine X_fin_ret ?_ | refine X_fin ?_); exact ⟨[_], [], .cons (.tmp rfl) .nil, Emb.nil _, congrArg Value.bool (e2 rfl), rfl⟩)
end Go.Proofs.YtchoncjikdfbgaaGreat
