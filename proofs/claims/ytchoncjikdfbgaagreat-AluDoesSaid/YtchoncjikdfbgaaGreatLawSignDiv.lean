import Derived.Test.YtchoncjikdfbgaaGreatSign3
/- The law SignDivides hands back true. -/
namespace Go.Proofs.YtchoncjikdfbgaaGreat
open Go.RowKit
set_option maxRecDepth 20000
set_option maxHeartbeats 4000000

theorem rdiv3_any (a b : Nat) (ha : a < 2 ^ 256) (hb : b < 2 ^ 256) (w : World) :
    Fn Tryz.prog 58 #[W a, W b] w fun v N => v = .tuple #[W (sdq (sgn a) (sgn b) (absN a / absN b)), W (sdr (sgn a) (remN (absN a) (absN b)))] ∧ N = [] := by
  have sa := rsize_any a ha
  have sb := rsize_any b hb
  have ba := rbelow_any a ha
  have bb := rbelow_any b hb
  have la := absN_lt ha
  have dv : ∀ v u w, Rd w v .i64 (dl 256 32 (absN a)) → Rd w u .i64 (dl 256 32 (absN b)) → Fn Tryz.prog 56 #[v, u] w fun z N => ∃ j v1 v2, remN (absN a) (absN b) < 256 ^ j ∧ z = .tuple #[v1, v2] ∧ N = [row .i64 (dl 256 32 (absN a / absN b)) v1, row .i64 (dl 256 j (remN (absN a) (absN b))) v2] := fun v u w h h' => by
    have := ndiv_any (absN a) (absN b) 32 32 (lt_256 la) (lt_256 (absN_lt hb)) (by omega) (by omega) v u w h h'
    refine Calls.mono this ?_
    rintro _ _ ⟨z, N, ow, he, hk, ho, j, r, v1, v2, hr, hrj, hj, hz, hN⟩
    have hr' : r = remN (absN a) (absN b) := hr
    subst hr'
    exact ⟨z, N, ow, he, hk, ho, j, v1, v2, hrj, hz, hN⟩
  have hq : absN a / absN b < 256 ^ 32 := lt_256 (Nat.lt_of_le_of_lt (Nat.div_le_self _ _) la)
  have nq := rneg3_any (absN a / absN b) (Nat.lt_of_le_of_lt (Nat.div_le_self _ _) la)
  have nr := rneg3_any (remN (absN a) (absN b)) (Nat.lt_of_le_of_lt (remN_le _ _) la)
  clear la
  generalize absN a / absN b = q at *
  generalize remN (absN a) (absN b) = r at *
  generalize absN a = A at *
  generalize absN b = B at *
  generalize sgn a = s at *
  generalize sgn b = t at *
  unfold sdq sdr
  generalize hq2 : negN q = q2 at *
  generalize hr2 : negN r = r2 at *
  cases s
  · cases t
    · skip
      refine Fn_of (args := [W a, W b]) Tryz.func58 rfl Tryz.ntmps58 Tryz.results58 (by simp) ?_
      refine T_seq ?_
      refine T_region ?_
      refine S_boxA rfl rfl rfl fun _ => ?_
      refine S_boxA rfl rfl rfl fun _ => ?_
      refine S_allocA (zer rfl) rfl rfl fun _ => ?_
      refine S_allocA (zer rfl) rfl rfl fun _ => ?_
      refine S_nil ?_
      refine X_seq ?_
      refine T_seq ?_
      refine T_draw (by kernel_rfl) (by kernel_rfl) rfl ?_
      refine D0_valM rfl rfl rfl (Y_loadAI 0 (und rfl) rfl rfl rfl (siz rfl) (dl_length _ _ _)) ?_
      refine D0_callV rfl rfl (bod rfl) (fun w hs => sa _) rfl rfl ?_
      skip
      refine D0_two ?_
      refine D2_call [] (by kernel_rfl) (fun _ => rfl) (fun _ => rfl) (bod rfl) (fun H w hK hs => nof_any A w) (fun _ => rfl) rfl ?_
      refine D2_valM rfl (fun _ => rfl) rfl (fun _ => (Y_loadAI 1 (und rfl) rfl rfl rfl (siz rfl) (dl_length _ _ _))) ?_
      refine D2_callV [] (by kernel_rfl) (fun _ => rfl) (fun _ => rfl) (bod rfl) (fun H w hK hs => sb w) (fun _ => rfl) rfl ?_
      skip
      refine D2_call [] (by kernel_rfl) (fun _ => rfl) (fun _ => rfl) (bod rfl) (fun H w hK hs => nof_any B w) (fun _ => rfl) rfl ?_
      skip
      refine D2_call [0, 1] (by kernel_rfl) (fun _ => rfl) (fun _ => rfl) (bod rfl) (fun H w hK hs => dv _ _ w (by first | exact Kn.rd hK hs 0 rfl | exact Kn.rd hK hs 1 rfl | exact Kn.rd hK hs 2 rfl | exact Kn.rd hK hs 3 rfl | exact Kn.rd hK hs 4 rfl | exact Kn.rd hK hs 5 rfl | exact hs.left.rowRd 0 rfl | exact hs.left.rowRd 1 rfl | exact hs.left.rowRd 2 rfl | exact hs.left.rowRd 3 rfl | exact hs.left.rowRd 4 rfl | exact hs.left.rowRd 5 rfl | exact hs.left.rowRd 6 rfl | exact hs.left.rowRd 7 rfl | exact hs.left.rowRd 8 rfl | exact hs.left.rowRd 9 rfl | exact hs.left.rowRd 10 rfl | exact hs.left.rowRd 11 rfl | exact hs.left.rowRd 12 rfl | exact hs.left.rowRd 13 rfl | exact Rd.st (by assumption) hs) (by first | exact Kn.rd hK hs 0 rfl | exact Kn.rd hK hs 1 rfl | exact Kn.rd hK hs 2 rfl | exact Kn.rd hK hs 3 rfl | exact Kn.rd hK hs 4 rfl | exact Kn.rd hK hs 5 rfl | exact hs.left.rowRd 0 rfl | exact hs.left.rowRd 1 rfl | exact hs.left.rowRd 2 rfl | exact hs.left.rowRd 3 rfl | exact hs.left.rowRd 4 rfl | exact hs.left.rowRd 5 rfl | exact hs.left.rowRd 6 rfl | exact hs.left.rowRd 7 rfl | exact hs.left.rowRd 8 rfl | exact hs.left.rowRd 9 rfl | exact hs.left.rowRd 10 rfl | exact hs.left.rowRd 11 rfl | exact hs.left.rowRd 12 rfl | exact hs.left.rowRd 13 rfl | exact Rd.st (by assumption) hs)) (fun _ => rfl) rfl ?_
      refine D2_move _ (by kernel_rfl) (fun _ => rfl) rfl (fun _ => rfl) ?_
      refine D2_extract 2 rfl (by kernel_rfl) (by rintro u N ⟨j, v1, v2, _, rfl, _⟩; exact ⟨[v1, v2], rfl, by simp⟩) (fun _ => rfl) rfl (fun _ => rfl) ?_
      refine D2_extract 2 rfl (by kernel_rfl) (by rintro u N ⟨j, v1, v2, _, rfl, _⟩; exact ⟨[v1, v2], rfl, by simp⟩) (fun _ => rfl) rfl (fun _ => rfl) ?_
      refine D2_asgT _ _ (by kernel_rfl) (fun _ => rfl) rfl (fun _ => rfl) ?_
      refine D2_asgT _ _ (by kernel_rfl) (fun _ => rfl) rfl (fun _ => rfl) ?_
      refine D2_nil fun H hK => ?_
      have h1 : (H 2).2 = [row .i64 (dl 256 32 A) (H 2).1] := hK _ (List.mem_of_getElem? (i := 0) rfl)
      have h3 : (H 5).2 = [row .i64 (dl 256 32 B) (H 5).1] := hK _ (List.mem_of_getElem? (i := 1) rfl)
      obtain ⟨j, v1, v2, hrj, hz, hN⟩ := hK _ (List.mem_of_getElem? (i := 2) rfl)
      simp only at hz hN
      have e0 : tg (.tuple #[v1, v2]) 0 = v1 := rfl
      have e1 : tg (.tuple #[v1, v2]) 1 = v2 := rfl
      simp only [Kn.hp, List.flatMap_cons, List.flatMap_nil, List.nil_append, List.cons_append, List.append_nil, h1, h3, hN, hz, e0, e1]
      clear hK h1 h3 hN hz dv
      refine X_seq ?_
      refine T_seq ?_
      refine T_region ?_
      refine S_val rfl rfl (Y_move rfl) ?_
      refine S_callV rfl rfl (bod rfl) (fun w hs => nword_any q 32 hq _ _ (by first | exact hs.rowRd 0 rfl | exact hs.rowRd 1 rfl | exact hs.rowRd 2 rfl | exact hs.rowRd 3 rfl | exact hs.rowRd 4 rfl | exact hs.rowRd 5 rfl | exact hs.rowRd 6 rfl | exact hs.rowRd 7 rfl | exact hs.rowRd 8 rfl | exact hs.rowRd 9 rfl | exact hs.rowRd 10 rfl | exact hs.rowRd 11 rfl | exact hs.rowRd 12 rfl | exact hs.rowRd 13 rfl | exact Rd.st (by assumption) hs)) rfl rfl ?_
      refine S_allocA (zer rfl) rfl rfl fun _ => ?_
      refine S_storeAI 8 (siz rfl) rfl rfl rfl rfl (dl_length _ _ _) rfl ?_
      refine S_nil ?_
      refine X_seq ?_
      refine T_seq ?_
      refine T_region ?_
      refine S_val rfl rfl (Y_move rfl) ?_
      refine S_callV rfl rfl (bod rfl) (fun w hs => nword_any r j hrj _ _ (by first | exact hs.rowRd 0 rfl | exact hs.rowRd 1 rfl | exact hs.rowRd 2 rfl | exact hs.rowRd 3 rfl | exact hs.rowRd 4 rfl | exact hs.rowRd 5 rfl | exact hs.rowRd 6 rfl | exact hs.rowRd 7 rfl | exact hs.rowRd 8 rfl | exact hs.rowRd 9 rfl | exact hs.rowRd 10 rfl | exact hs.rowRd 11 rfl | exact hs.rowRd 12 rfl | exact hs.rowRd 13 rfl | exact Rd.st (by assumption) hs)) rfl rfl ?_
      refine S_allocA (zer rfl) rfl rfl fun _ => ?_
      refine S_storeAI 9 (siz rfl) rfl rfl rfl rfl (dl_length _ _ _) rfl ?_
      refine S_nil ?_
      refine X_seq ?_
      refine T_seq ?_
      refine T_seq ?_
      refine T_draw (by kernel_rfl) (by kernel_rfl) rfl ?_
      refine D0_valM rfl rfl rfl (Y_loadAI 0 (und rfl) rfl rfl rfl (siz rfl) (dl_length _ _ _)) ?_
      refine D0_callV rfl rfl (bod rfl) (fun w hs => ba _) rfl rfl ?_
      refine D0_valM rfl rfl rfl (Y_loadAI 1 (und rfl) rfl rfl rfl (siz rfl) (dl_length _ _ _)) ?_
      refine D0_callV rfl rfl (bod rfl) (fun w hs => bb _) rfl rfl ?_
      refine D0_val rfl rfl rfl (Y_neqB_f (und rfl) rfl rfl) ?_
      refine D0_nil ?_
      refine X_seq ?_
      refine T_cond_false rfl ?_
      refine T_skip ?_
      refine X_seq ?_
      refine T_seq ?_
      refine T_seq ?_
      refine T_region ?_
      refine S_val rfl rfl (Y_loadAI 0 (und rfl) rfl rfl rfl (siz rfl) (dl_length _ _ _)) ?_
      refine S_callV rfl rfl (bod rfl) (fun w hs => ba _) rfl rfl ?_
      refine S_nil ?_
      refine X_seq ?_
      refine T_cond_false rfl ?_
      refine T_skip ?_
      refine X_seq ?_
      refine T_seq ?_
      rename_i b0 b1 b2 b3 _ _
      refine T_drawL (.succ (.succ .zero)) [.fx (blk b2 (.cells (ints .u64 (List.replicate 4 0)) 24 (0, 0))), .fx (blk b3 (.cells (ints .u64 (List.replicate 4 0)) 24 (0, 0)))] [blk b0 (.cells (ints .u64 (dl 18446744073709551616 4 (a))) 24 (0, 0)), blk b1 (.cells (ints .u64 (dl 18446744073709551616 4 (b))) 24 (0, 0)), blk _ (.cells (ints .u64 (dl 18446744073709551616 4 (q))) 24 (0, 0)), blk _ (.cells (ints .u64 (dl 18446744073709551616 4 (r))) 24 (0, 0))] rfl (by kernel_rfl) (Emb.idx [0, 1, 8, 9, 2, 3] rfl rfl) rfl (by kernel_rfl) ?_
      refine D0_valM rfl rfl rfl (Y_loadAI 2 (und rfl) rfl rfl rfl (siz rfl) (dl_length _ _ _)) ?_
      refine D0_valM rfl rfl rfl (Y_loadAI 3 (und rfl) rfl rfl rfl (siz rfl) (dl_length _ _ _)) ?_
      refine D0_nilL ?_
      refine DL_storeAI rfl (fun _ => rfl) rfl (siz rfl) (fun _ => rfl) (fun _ => rfl) rfl (dl_length _ _ _) ?_
      refine DL_storeAI rfl (fun _ => rfl) rfl (siz rfl) (fun _ => rfl) (fun _ => rfl) rfl (dl_length _ _ _) ?_
      refine DL_nil fun _ => ?_
      refine X_seq ?_
      refine T_ret ?_
      ((first | refine X_fin_ret ?_ | refine X_fin ?_); exact ⟨[_, _], [], .cons (.agg 4 rfl (und rfl) rfl rfl (siz rfl)) (.cons (.agg 5 rfl (und rfl) rfl rfl (siz rfl)) .nil), Emb.nil _, rfl, rfl⟩)
    · skip
      refine Fn_of (args := [W a, W b]) Tryz.func58 rfl Tryz.ntmps58 Tryz.results58 (by simp) ?_
      refine T_seq ?_
      refine T_region ?_
      refine S_boxA rfl rfl rfl fun _ => ?_
      refine S_boxA rfl rfl rfl fun _ => ?_
      refine S_allocA (zer rfl) rfl rfl fun _ => ?_
      refine S_allocA (zer rfl) rfl rfl fun _ => ?_
      refine S_nil ?_
      refine X_seq ?_
      refine T_seq ?_
      refine T_draw (by kernel_rfl) (by kernel_rfl) rfl ?_
      refine D0_valM rfl rfl rfl (Y_loadAI 0 (und rfl) rfl rfl rfl (siz rfl) (dl_length _ _ _)) ?_
      refine D0_callV rfl rfl (bod rfl) (fun w hs => sa _) rfl rfl ?_
      skip
      refine D0_two ?_
      refine D2_call [] (by kernel_rfl) (fun _ => rfl) (fun _ => rfl) (bod rfl) (fun H w hK hs => nof_any A w) (fun _ => rfl) rfl ?_
      refine D2_valM rfl (fun _ => rfl) rfl (fun _ => (Y_loadAI 1 (und rfl) rfl rfl rfl (siz rfl) (dl_length _ _ _))) ?_
      refine D2_callV [] (by kernel_rfl) (fun _ => rfl) (fun _ => rfl) (bod rfl) (fun H w hK hs => sb w) (fun _ => rfl) rfl ?_
      skip
      refine D2_call [] (by kernel_rfl) (fun _ => rfl) (fun _ => rfl) (bod rfl) (fun H w hK hs => nof_any B w) (fun _ => rfl) rfl ?_
      skip
      refine D2_call [0, 1] (by kernel_rfl) (fun _ => rfl) (fun _ => rfl) (bod rfl) (fun H w hK hs => dv _ _ w (by first | exact Kn.rd hK hs 0 rfl | exact Kn.rd hK hs 1 rfl | exact Kn.rd hK hs 2 rfl | exact Kn.rd hK hs 3 rfl | exact Kn.rd hK hs 4 rfl | exact Kn.rd hK hs 5 rfl | exact hs.left.rowRd 0 rfl | exact hs.left.rowRd 1 rfl | exact hs.left.rowRd 2 rfl | exact hs.left.rowRd 3 rfl | exact hs.left.rowRd 4 rfl | exact hs.left.rowRd 5 rfl | exact hs.left.rowRd 6 rfl | exact hs.left.rowRd 7 rfl | exact hs.left.rowRd 8 rfl | exact hs.left.rowRd 9 rfl | exact hs.left.rowRd 10 rfl | exact hs.left.rowRd 11 rfl | exact hs.left.rowRd 12 rfl | exact hs.left.rowRd 13 rfl | exact Rd.st (by assumption) hs) (by first | exact Kn.rd hK hs 0 rfl | exact Kn.rd hK hs 1 rfl | exact Kn.rd hK hs 2 rfl | exact Kn.rd hK hs 3 rfl | exact Kn.rd hK hs 4 rfl | exact Kn.rd hK hs 5 rfl | exact hs.left.rowRd 0 rfl | exact hs.left.rowRd 1 rfl | exact hs.left.rowRd 2 rfl | exact hs.left.rowRd 3 rfl | exact hs.left.rowRd 4 rfl | exact hs.left.rowRd 5 rfl | exact hs.left.rowRd 6 rfl | exact hs.left.rowRd 7 rfl | exact hs.left.rowRd 8 rfl | exact hs.left.rowRd 9 rfl | exact hs.left.rowRd 10 rfl | exact hs.left.rowRd 11 rfl | exact hs.left.rowRd 12 rfl | exact hs.left.rowRd 13 rfl | exact Rd.st (by assumption) hs)) (fun _ => rfl) rfl ?_
      refine D2_move _ (by kernel_rfl) (fun _ => rfl) rfl (fun _ => rfl) ?_
      refine D2_extract 2 rfl (by kernel_rfl) (by rintro u N ⟨j, v1, v2, _, rfl, _⟩; exact ⟨[v1, v2], rfl, by simp⟩) (fun _ => rfl) rfl (fun _ => rfl) ?_
      refine D2_extract 2 rfl (by kernel_rfl) (by rintro u N ⟨j, v1, v2, _, rfl, _⟩; exact ⟨[v1, v2], rfl, by simp⟩) (fun _ => rfl) rfl (fun _ => rfl) ?_
      refine D2_asgT _ _ (by kernel_rfl) (fun _ => rfl) rfl (fun _ => rfl) ?_
      refine D2_asgT _ _ (by kernel_rfl) (fun _ => rfl) rfl (fun _ => rfl) ?_
      refine D2_nil fun H hK => ?_
      have h1 : (H 2).2 = [row .i64 (dl 256 32 A) (H 2).1] := hK _ (List.mem_of_getElem? (i := 0) rfl)
      have h3 : (H 5).2 = [row .i64 (dl 256 32 B) (H 5).1] := hK _ (List.mem_of_getElem? (i := 1) rfl)
      obtain ⟨j, v1, v2, hrj, hz, hN⟩ := hK _ (List.mem_of_getElem? (i := 2) rfl)
      simp only at hz hN
      have e0 : tg (.tuple #[v1, v2]) 0 = v1 := rfl
      have e1 : tg (.tuple #[v1, v2]) 1 = v2 := rfl
      simp only [Kn.hp, List.flatMap_cons, List.flatMap_nil, List.nil_append, List.cons_append, List.append_nil, h1, h3, hN, hz, e0, e1]
      clear hK h1 h3 hN hz dv
      refine X_seq ?_
      refine T_seq ?_
      refine T_region ?_
      refine S_val rfl rfl (Y_move rfl) ?_
      refine S_callV rfl rfl (bod rfl) (fun w hs => nword_any q 32 hq _ _ (by first | exact hs.rowRd 0 rfl | exact hs.rowRd 1 rfl | exact hs.rowRd 2 rfl | exact hs.rowRd 3 rfl | exact hs.rowRd 4 rfl | exact hs.rowRd 5 rfl | exact hs.rowRd 6 rfl | exact hs.rowRd 7 rfl | exact hs.rowRd 8 rfl | exact hs.rowRd 9 rfl | exact hs.rowRd 10 rfl | exact hs.rowRd 11 rfl | exact hs.rowRd 12 rfl | exact hs.rowRd 13 rfl | exact Rd.st (by assumption) hs)) rfl rfl ?_
      refine S_allocA (zer rfl) rfl rfl fun _ => ?_
      refine S_storeAI 8 (siz rfl) rfl rfl rfl rfl (dl_length _ _ _) rfl ?_
      refine S_nil ?_
      refine X_seq ?_
      refine T_seq ?_
      refine T_region ?_
      refine S_val rfl rfl (Y_move rfl) ?_
      refine S_callV rfl rfl (bod rfl) (fun w hs => nword_any r j hrj _ _ (by first | exact hs.rowRd 0 rfl | exact hs.rowRd 1 rfl | exact hs.rowRd 2 rfl | exact hs.rowRd 3 rfl | exact hs.rowRd 4 rfl | exact hs.rowRd 5 rfl | exact hs.rowRd 6 rfl | exact hs.rowRd 7 rfl | exact hs.rowRd 8 rfl | exact hs.rowRd 9 rfl | exact hs.rowRd 10 rfl | exact hs.rowRd 11 rfl | exact hs.rowRd 12 rfl | exact hs.rowRd 13 rfl | exact Rd.st (by assumption) hs)) rfl rfl ?_
      refine S_allocA (zer rfl) rfl rfl fun _ => ?_
      refine S_storeAI 9 (siz rfl) rfl rfl rfl rfl (dl_length _ _ _) rfl ?_
      refine S_nil ?_
      refine X_seq ?_
      refine T_seq ?_
      refine T_seq ?_
      refine T_draw (by kernel_rfl) (by kernel_rfl) rfl ?_
      refine D0_valM rfl rfl rfl (Y_loadAI 0 (und rfl) rfl rfl rfl (siz rfl) (dl_length _ _ _)) ?_
      refine D0_callV rfl rfl (bod rfl) (fun w hs => ba _) rfl rfl ?_
      refine D0_valM rfl rfl rfl (Y_loadAI 1 (und rfl) rfl rfl rfl (siz rfl) (dl_length _ _ _)) ?_
      refine D0_callV rfl rfl (bod rfl) (fun w hs => bb _) rfl rfl ?_
      refine D0_val rfl rfl rfl (Y_neqB (und rfl) rfl rfl) ?_
      refine D0_nil ?_
      refine X_seq ?_
      refine T_cond_true rfl ?_
      refine T_region ?_
      refine S_val rfl rfl (Y_loadAI 8 (und rfl) rfl rfl rfl (siz rfl) (dl_length _ _ _)) ?_
      refine S_callV rfl rfl (bod rfl) (fun w hs => nq _) rfl rfl ?_
      refine S_storeAI 8 (siz rfl) rfl rfl rfl (dl_length _ _ _) (dl_length _ _ _) rfl ?_
      refine S_nil ?_
      refine X_seq ?_
      refine T_seq ?_
      refine T_seq ?_
      refine T_region ?_
      refine S_val rfl rfl (Y_loadAI 0 (und rfl) rfl rfl rfl (siz rfl) (dl_length _ _ _)) ?_
      refine S_callV rfl rfl (bod rfl) (fun w hs => ba _) rfl rfl ?_
      refine S_nil ?_
      refine X_seq ?_
      refine T_cond_false rfl ?_
      refine T_skip ?_
      refine X_seq ?_
      refine T_seq ?_
      rename_i b0 b1 b2 b3 _ _
      refine T_drawL (.succ (.succ .zero)) [.fx (blk b2 (.cells (ints .u64 (List.replicate 4 0)) 24 (0, 0))), .fx (blk b3 (.cells (ints .u64 (List.replicate 4 0)) 24 (0, 0)))] [blk b0 (.cells (ints .u64 (dl 18446744073709551616 4 (a))) 24 (0, 0)), blk b1 (.cells (ints .u64 (dl 18446744073709551616 4 (b))) 24 (0, 0)), blk _ (.cells (ints .u64 (dl 18446744073709551616 4 (q2))) 24 (0, 0)), blk _ (.cells (ints .u64 (dl 18446744073709551616 4 (r))) 24 (0, 0))] rfl (by kernel_rfl) (Emb.idx [0, 1, 8, 9, 2, 3] rfl rfl) rfl (by kernel_rfl) ?_
      refine D0_valM rfl rfl rfl (Y_loadAI 2 (und rfl) rfl rfl rfl (siz rfl) (dl_length _ _ _)) ?_
      refine D0_valM rfl rfl rfl (Y_loadAI 3 (und rfl) rfl rfl rfl (siz rfl) (dl_length _ _ _)) ?_
      refine D0_nilL ?_
      refine DL_storeAI rfl (fun _ => rfl) rfl (siz rfl) (fun _ => rfl) (fun _ => rfl) rfl (dl_length _ _ _) ?_
      refine DL_storeAI rfl (fun _ => rfl) rfl (siz rfl) (fun _ => rfl) (fun _ => rfl) rfl (dl_length _ _ _) ?_
      refine DL_nil fun _ => ?_
      refine X_seq ?_
      refine T_ret ?_
      ((first | refine X_fin_ret ?_ | refine X_fin ?_); exact ⟨[_, _], [], .cons (.agg 4 rfl (und rfl) rfl rfl (siz rfl)) (.cons (.agg 5 rfl (und rfl) rfl rfl (siz rfl)) .nil), Emb.nil _, rfl, rfl⟩)
  · cases t
    · skip
      refine Fn_of (args := [W a, W b]) Tryz.func58 rfl Tryz.ntmps58 Tryz.results58 (by simp) ?_
      refine T_seq ?_
      refine T_region ?_
      refine S_boxA rfl rfl rfl fun _ => ?_
      refine S_boxA rfl rfl rfl fun _ => ?_
      refine S_allocA (zer rfl) rfl rfl fun _ => ?_
      refine S_allocA (zer rfl) rfl rfl fun _ => ?_
      refine S_nil ?_
      refine X_seq ?_
      refine T_seq ?_
      refine T_draw (by kernel_rfl) (by kernel_rfl) rfl ?_
      refine D0_valM rfl rfl rfl (Y_loadAI 0 (und rfl) rfl rfl rfl (siz rfl) (dl_length _ _ _)) ?_
      refine D0_callV rfl rfl (bod rfl) (fun w hs => sa _) rfl rfl ?_
      skip
      refine D0_two ?_
      refine D2_call [] (by kernel_rfl) (fun _ => rfl) (fun _ => rfl) (bod rfl) (fun H w hK hs => nof_any A w) (fun _ => rfl) rfl ?_
      refine D2_valM rfl (fun _ => rfl) rfl (fun _ => (Y_loadAI 1 (und rfl) rfl rfl rfl (siz rfl) (dl_length _ _ _))) ?_
      refine D2_callV [] (by kernel_rfl) (fun _ => rfl) (fun _ => rfl) (bod rfl) (fun H w hK hs => sb w) (fun _ => rfl) rfl ?_
      skip
      refine D2_call [] (by kernel_rfl) (fun _ => rfl) (fun _ => rfl) (bod rfl) (fun H w hK hs => nof_any B w) (fun _ => rfl) rfl ?_
      skip
      refine D2_call [0, 1] (by kernel_rfl) (fun _ => rfl) (fun _ => rfl) (bod rfl) (fun H w hK hs => dv _ _ w (by first | exact Kn.rd hK hs 0 rfl | exact Kn.rd hK hs 1 rfl | exact Kn.rd hK hs 2 rfl | exact Kn.rd hK hs 3 rfl | exact Kn.rd hK hs 4 rfl | exact Kn.rd hK hs 5 rfl | exact hs.left.rowRd 0 rfl | exact hs.left.rowRd 1 rfl | exact hs.left.rowRd 2 rfl | exact hs.left.rowRd 3 rfl | exact hs.left.rowRd 4 rfl | exact hs.left.rowRd 5 rfl | exact hs.left.rowRd 6 rfl | exact hs.left.rowRd 7 rfl | exact hs.left.rowRd 8 rfl | exact hs.left.rowRd 9 rfl | exact hs.left.rowRd 10 rfl | exact hs.left.rowRd 11 rfl | exact hs.left.rowRd 12 rfl | exact hs.left.rowRd 13 rfl | exact Rd.st (by assumption) hs) (by first | exact Kn.rd hK hs 0 rfl | exact Kn.rd hK hs 1 rfl | exact Kn.rd hK hs 2 rfl | exact Kn.rd hK hs 3 rfl | exact Kn.rd hK hs 4 rfl | exact Kn.rd hK hs 5 rfl | exact hs.left.rowRd 0 rfl | exact hs.left.rowRd 1 rfl | exact hs.left.rowRd 2 rfl | exact hs.left.rowRd 3 rfl | exact hs.left.rowRd 4 rfl | exact hs.left.rowRd 5 rfl | exact hs.left.rowRd 6 rfl | exact hs.left.rowRd 7 rfl | exact hs.left.rowRd 8 rfl | exact hs.left.rowRd 9 rfl | exact hs.left.rowRd 10 rfl | exact hs.left.rowRd 11 rfl | exact hs.left.rowRd 12 rfl | exact hs.left.rowRd 13 rfl | exact Rd.st (by assumption) hs)) (fun _ => rfl) rfl ?_
      refine D2_move _ (by kernel_rfl) (fun _ => rfl) rfl (fun _ => rfl) ?_
      refine D2_extract 2 rfl (by kernel_rfl) (by rintro u N ⟨j, v1, v2, _, rfl, _⟩; exact ⟨[v1, v2], rfl, by simp⟩) (fun _ => rfl) rfl (fun _ => rfl) ?_
      refine D2_extract 2 rfl (by kernel_rfl) (by rintro u N ⟨j, v1, v2, _, rfl, _⟩; exact ⟨[v1, v2], rfl, by simp⟩) (fun _ => rfl) rfl (fun _ => rfl) ?_
      refine D2_asgT _ _ (by kernel_rfl) (fun _ => rfl) rfl (fun _ => rfl) ?_
      refine D2_asgT _ _ (by kernel_rfl) (fun _ => rfl) rfl (fun _ => rfl) ?_
      refine D2_nil fun H hK => ?_
      have h1 : (H 2).2 = [row .i64 (dl 256 32 A) (H 2).1] := hK _ (List.mem_of_getElem? (i := 0) rfl)
      have h3 : (H 5).2 = [row .i64 (dl 256 32 B) (H 5).1] := hK _ (List.mem_of_getElem? (i := 1) rfl)
      obtain ⟨j, v1, v2, hrj, hz, hN⟩ := hK _ (List.mem_of_getElem? (i := 2) rfl)
      simp only at hz hN
      have e0 : tg (.tuple #[v1, v2]) 0 = v1 := rfl
      have e1 : tg (.tuple #[v1, v2]) 1 = v2 := rfl
      simp only [Kn.hp, List.flatMap_cons, List.flatMap_nil, List.nil_append, List.cons_append, List.append_nil, h1, h3, hN, hz, e0, e1]
      clear hK h1 h3 hN hz dv
      refine X_seq ?_
      refine T_seq ?_
      refine T_region ?_
      refine S_val rfl rfl (Y_move rfl) ?_
      refine S_callV rfl rfl (bod rfl) (fun w hs => nword_any q 32 hq _ _ (by first | exact hs.rowRd 0 rfl | exact hs.rowRd 1 rfl | exact hs.rowRd 2 rfl | exact hs.rowRd 3 rfl | exact hs.rowRd 4 rfl | exact hs.rowRd 5 rfl | exact hs.rowRd 6 rfl | exact hs.rowRd 7 rfl | exact hs.rowRd 8 rfl | exact hs.rowRd 9 rfl | exact hs.rowRd 10 rfl | exact hs.rowRd 11 rfl | exact hs.rowRd 12 rfl | exact hs.rowRd 13 rfl | exact Rd.st (by assumption) hs)) rfl rfl ?_
      refine S_allocA (zer rfl) rfl rfl fun _ => ?_
      refine S_storeAI 8 (siz rfl) rfl rfl rfl rfl (dl_length _ _ _) rfl ?_
      refine S_nil ?_
      refine X_seq ?_
      refine T_seq ?_
      refine T_region ?_
      refine S_val rfl rfl (Y_move rfl) ?_
      refine S_callV rfl rfl (bod rfl) (fun w hs => nword_any r j hrj _ _ (by first | exact hs.rowRd 0 rfl | exact hs.rowRd 1 rfl | exact hs.rowRd 2 rfl | exact hs.rowRd 3 rfl | exact hs.rowRd 4 rfl | exact hs.rowRd 5 rfl | exact hs.rowRd 6 rfl | exact hs.rowRd 7 rfl | exact hs.rowRd 8 rfl | exact hs.rowRd 9 rfl | exact hs.rowRd 10 rfl | exact hs.rowRd 11 rfl | exact hs.rowRd 12 rfl | exact hs.rowRd 13 rfl | exact Rd.st (by assumption) hs)) rfl rfl ?_
      refine S_allocA (zer rfl) rfl rfl fun _ => ?_
      refine S_storeAI 9 (siz rfl) rfl rfl rfl rfl (dl_length _ _ _) rfl ?_
      refine S_nil ?_
      refine X_seq ?_
      refine T_seq ?_
      refine T_seq ?_
      refine T_draw (by kernel_rfl) (by kernel_rfl) rfl ?_
      refine D0_valM rfl rfl rfl (Y_loadAI 0 (und rfl) rfl rfl rfl (siz rfl) (dl_length _ _ _)) ?_
      refine D0_callV rfl rfl (bod rfl) (fun w hs => ba _) rfl rfl ?_
      refine D0_valM rfl rfl rfl (Y_loadAI 1 (und rfl) rfl rfl rfl (siz rfl) (dl_length _ _ _)) ?_
      refine D0_callV rfl rfl (bod rfl) (fun w hs => bb _) rfl rfl ?_
      refine D0_val rfl rfl rfl (Y_neqB (und rfl) rfl rfl) ?_
      refine D0_nil ?_
      refine X_seq ?_
      refine T_cond_true rfl ?_
      refine T_region ?_
      refine S_val rfl rfl (Y_loadAI 8 (und rfl) rfl rfl rfl (siz rfl) (dl_length _ _ _)) ?_
      refine S_callV rfl rfl (bod rfl) (fun w hs => nq _) rfl rfl ?_
      refine S_storeAI 8 (siz rfl) rfl rfl rfl (dl_length _ _ _) (dl_length _ _ _) rfl ?_
      refine S_nil ?_
      refine X_seq ?_
      refine T_seq ?_
      refine T_seq ?_
      refine T_region ?_
      refine S_val rfl rfl (Y_loadAI 0 (und rfl) rfl rfl rfl (siz rfl) (dl_length _ _ _)) ?_
      refine S_callV rfl rfl (bod rfl) (fun w hs => ba _) rfl rfl ?_
      refine S_nil ?_
      refine X_seq ?_
      refine T_cond_true rfl ?_
      refine T_region ?_
      refine S_val rfl rfl (Y_loadAI 9 (und rfl) rfl rfl rfl (siz rfl) (dl_length _ _ _)) ?_
      refine S_callV rfl rfl (bod rfl) (fun w hs => nr _) rfl rfl ?_
      refine S_storeAI 9 (siz rfl) rfl rfl rfl (dl_length _ _ _) (dl_length _ _ _) rfl ?_
      refine S_nil ?_
      refine X_seq ?_
      refine T_seq ?_
      rename_i b0 b1 b2 b3 _ _
      refine T_drawL (.succ (.succ .zero)) [.fx (blk b2 (.cells (ints .u64 (List.replicate 4 0)) 24 (0, 0))), .fx (blk b3 (.cells (ints .u64 (List.replicate 4 0)) 24 (0, 0)))] [blk b0 (.cells (ints .u64 (dl 18446744073709551616 4 (a))) 24 (0, 0)), blk b1 (.cells (ints .u64 (dl 18446744073709551616 4 (b))) 24 (0, 0)), blk _ (.cells (ints .u64 (dl 18446744073709551616 4 (q2))) 24 (0, 0)), blk _ (.cells (ints .u64 (dl 18446744073709551616 4 (r2))) 24 (0, 0))] rfl (by kernel_rfl) (Emb.idx [0, 1, 8, 9, 2, 3] rfl rfl) rfl (by kernel_rfl) ?_
      refine D0_valM rfl rfl rfl (Y_loadAI 2 (und rfl) rfl rfl rfl (siz rfl) (dl_length _ _ _)) ?_
      refine D0_valM rfl rfl rfl (Y_loadAI 3 (und rfl) rfl rfl rfl (siz rfl) (dl_length _ _ _)) ?_
      refine D0_nilL ?_
      refine DL_storeAI rfl (fun _ => rfl) rfl (siz rfl) (fun _ => rfl) (fun _ => rfl) rfl (dl_length _ _ _) ?_
      refine DL_storeAI rfl (fun _ => rfl) rfl (siz rfl) (fun _ => rfl) (fun _ => rfl) rfl (dl_length _ _ _) ?_
      refine DL_nil fun _ => ?_
      refine X_seq ?_
      refine T_ret ?_
      ((first | refine X_fin_ret ?_ | refine X_fin ?_); exact ⟨[_, _], [], .cons (.agg 4 rfl (und rfl) rfl rfl (siz rfl)) (.cons (.agg 5 rfl (und rfl) rfl rfl (siz rfl)) .nil), Emb.nil _, rfl, rfl⟩)
    · skip
      refine Fn_of (args := [W a, W b]) Tryz.func58 rfl Tryz.ntmps58 Tryz.results58 (by simp) ?_
      refine T_seq ?_
      refine T_region ?_
      refine S_boxA rfl rfl rfl fun _ => ?_
      refine S_boxA rfl rfl rfl fun _ => ?_
      refine S_allocA (zer rfl) rfl rfl fun _ => ?_
      refine S_allocA (zer rfl) rfl rfl fun _ => ?_
      refine S_nil ?_
      refine X_seq ?_
      refine T_seq ?_
      refine T_draw (by kernel_rfl) (by kernel_rfl) rfl ?_
      refine D0_valM rfl rfl rfl (Y_loadAI 0 (und rfl) rfl rfl rfl (siz rfl) (dl_length _ _ _)) ?_
      refine D0_callV rfl rfl (bod rfl) (fun w hs => sa _) rfl rfl ?_
      skip
      refine D0_two ?_
      refine D2_call [] (by kernel_rfl) (fun _ => rfl) (fun _ => rfl) (bod rfl) (fun H w hK hs => nof_any A w) (fun _ => rfl) rfl ?_
      refine D2_valM rfl (fun _ => rfl) rfl (fun _ => (Y_loadAI 1 (und rfl) rfl rfl rfl (siz rfl) (dl_length _ _ _))) ?_
      refine D2_callV [] (by kernel_rfl) (fun _ => rfl) (fun _ => rfl) (bod rfl) (fun H w hK hs => sb w) (fun _ => rfl) rfl ?_
      skip
      refine D2_call [] (by kernel_rfl) (fun _ => rfl) (fun _ => rfl) (bod rfl) (fun H w hK hs => nof_any B w) (fun _ => rfl) rfl ?_
      skip
      refine D2_call [0, 1] (by kernel_rfl) (fun _ => rfl) (fun _ => rfl) (bod rfl) (fun H w hK hs => dv _ _ w (by first | exact Kn.rd hK hs 0 rfl | exact Kn.rd hK hs 1 rfl | exact Kn.rd hK hs 2 rfl | exact Kn.rd hK hs 3 rfl | exact Kn.rd hK hs 4 rfl | exact Kn.rd hK hs 5 rfl | exact hs.left.rowRd 0 rfl | exact hs.left.rowRd 1 rfl | exact hs.left.rowRd 2 rfl | exact hs.left.rowRd 3 rfl | exact hs.left.rowRd 4 rfl | exact hs.left.rowRd 5 rfl | exact hs.left.rowRd 6 rfl | exact hs.left.rowRd 7 rfl | exact hs.left.rowRd 8 rfl | exact hs.left.rowRd 9 rfl | exact hs.left.rowRd 10 rfl | exact hs.left.rowRd 11 rfl | exact hs.left.rowRd 12 rfl | exact hs.left.rowRd 13 rfl | exact Rd.st (by assumption) hs) (by first | exact Kn.rd hK hs 0 rfl | exact Kn.rd hK hs 1 rfl | exact Kn.rd hK hs 2 rfl | exact Kn.rd hK hs 3 rfl | exact Kn.rd hK hs 4 rfl | exact Kn.rd hK hs 5 rfl | exact hs.left.rowRd 0 rfl | exact hs.left.rowRd 1 rfl | exact hs.left.rowRd 2 rfl | exact hs.left.rowRd 3 rfl | exact hs.left.rowRd 4 rfl | exact hs.left.rowRd 5 rfl | exact hs.left.rowRd 6 rfl | exact hs.left.rowRd 7 rfl | exact hs.left.rowRd 8 rfl | exact hs.left.rowRd 9 rfl | exact hs.left.rowRd 10 rfl | exact hs.left.rowRd 11 rfl | exact hs.left.rowRd 12 rfl | exact hs.left.rowRd 13 rfl | exact Rd.st (by assumption) hs)) (fun _ => rfl) rfl ?_
      refine D2_move _ (by kernel_rfl) (fun _ => rfl) rfl (fun _ => rfl) ?_
      refine D2_extract 2 rfl (by kernel_rfl) (by rintro u N ⟨j, v1, v2, _, rfl, _⟩; exact ⟨[v1, v2], rfl, by simp⟩) (fun _ => rfl) rfl (fun _ => rfl) ?_
      refine D2_extract 2 rfl (by kernel_rfl) (by rintro u N ⟨j, v1, v2, _, rfl, _⟩; exact ⟨[v1, v2], rfl, by simp⟩) (fun _ => rfl) rfl (fun _ => rfl) ?_
      refine D2_asgT _ _ (by kernel_rfl) (fun _ => rfl) rfl (fun _ => rfl) ?_
      refine D2_asgT _ _ (by kernel_rfl) (fun _ => rfl) rfl (fun _ => rfl) ?_
      refine D2_nil fun H hK => ?_
      have h1 : (H 2).2 = [row .i64 (dl 256 32 A) (H 2).1] := hK _ (List.mem_of_getElem? (i := 0) rfl)
      have h3 : (H 5).2 = [row .i64 (dl 256 32 B) (H 5).1] := hK _ (List.mem_of_getElem? (i := 1) rfl)
      obtain ⟨j, v1, v2, hrj, hz, hN⟩ := hK _ (List.mem_of_getElem? (i := 2) rfl)
      simp only at hz hN
      have e0 : tg (.tuple #[v1, v2]) 0 = v1 := rfl
      have e1 : tg (.tuple #[v1, v2]) 1 = v2 := rfl
      simp only [Kn.hp, List.flatMap_cons, List.flatMap_nil, List.nil_append, List.cons_append, List.append_nil, h1, h3, hN, hz, e0, e1]
      clear hK h1 h3 hN hz dv
      refine X_seq ?_
      refine T_seq ?_
      refine T_region ?_
      refine S_val rfl rfl (Y_move rfl) ?_
      refine S_callV rfl rfl (bod rfl) (fun w hs => nword_any q 32 hq _ _ (by first | exact hs.rowRd 0 rfl | exact hs.rowRd 1 rfl | exact hs.rowRd 2 rfl | exact hs.rowRd 3 rfl | exact hs.rowRd 4 rfl | exact hs.rowRd 5 rfl | exact hs.rowRd 6 rfl | exact hs.rowRd 7 rfl | exact hs.rowRd 8 rfl | exact hs.rowRd 9 rfl | exact hs.rowRd 10 rfl | exact hs.rowRd 11 rfl | exact hs.rowRd 12 rfl | exact hs.rowRd 13 rfl | exact Rd.st (by assumption) hs)) rfl rfl ?_
      refine S_allocA (zer rfl) rfl rfl fun _ => ?_
      refine S_storeAI 8 (siz rfl) rfl rfl rfl rfl (dl_length _ _ _) rfl ?_
      refine S_nil ?_
      refine X_seq ?_
      refine T_seq ?_
      refine T_region ?_
      refine S_val rfl rfl (Y_move rfl) ?_
      refine S_callV rfl rfl (bod rfl) (fun w hs => nword_any r j hrj _ _ (by first | exact hs.rowRd 0 rfl | exact hs.rowRd 1 rfl | exact hs.rowRd 2 rfl | exact hs.rowRd 3 rfl | exact hs.rowRd 4 rfl | exact hs.rowRd 5 rfl | exact hs.rowRd 6 rfl | exact hs.rowRd 7 rfl | exact hs.rowRd 8 rfl | exact hs.rowRd 9 rfl | exact hs.rowRd 10 rfl | exact hs.rowRd 11 rfl | exact hs.rowRd 12 rfl | exact hs.rowRd 13 rfl | exact Rd.st (by assumption) hs)) rfl rfl ?_
      refine S_allocA (zer rfl) rfl rfl fun _ => ?_
      refine S_storeAI 9 (siz rfl) rfl rfl rfl rfl (dl_length _ _ _) rfl ?_
      refine S_nil ?_
      refine X_seq ?_
      refine T_seq ?_
      refine T_seq ?_
      refine T_draw (by kernel_rfl) (by kernel_rfl) rfl ?_
      refine D0_valM rfl rfl rfl (Y_loadAI 0 (und rfl) rfl rfl rfl (siz rfl) (dl_length _ _ _)) ?_
      refine D0_callV rfl rfl (bod rfl) (fun w hs => ba _) rfl rfl ?_
      refine D0_valM rfl rfl rfl (Y_loadAI 1 (und rfl) rfl rfl rfl (siz rfl) (dl_length _ _ _)) ?_
      refine D0_callV rfl rfl (bod rfl) (fun w hs => bb _) rfl rfl ?_
      refine D0_val rfl rfl rfl (Y_neqB_f (und rfl) rfl rfl) ?_
      refine D0_nil ?_
      refine X_seq ?_
      refine T_cond_false rfl ?_
      refine T_skip ?_
      refine X_seq ?_
      refine T_seq ?_
      refine T_seq ?_
      refine T_region ?_
      refine S_val rfl rfl (Y_loadAI 0 (und rfl) rfl rfl rfl (siz rfl) (dl_length _ _ _)) ?_
      refine S_callV rfl rfl (bod rfl) (fun w hs => ba _) rfl rfl ?_
      refine S_nil ?_
      refine X_seq ?_
      refine T_cond_true rfl ?_
      refine T_region ?_
      refine S_val rfl rfl (Y_loadAI 9 (und rfl) rfl rfl rfl (siz rfl) (dl_length _ _ _)) ?_
      refine S_callV rfl rfl (bod rfl) (fun w hs => nr _) rfl rfl ?_
      refine S_storeAI 9 (siz rfl) rfl rfl rfl (dl_length _ _ _) (dl_length _ _ _) rfl ?_
      refine S_nil ?_
      refine X_seq ?_
      refine T_seq ?_
      rename_i b0 b1 b2 b3 _ _
      refine T_drawL (.succ (.succ .zero)) [.fx (blk b2 (.cells (ints .u64 (List.replicate 4 0)) 24 (0, 0))), .fx (blk b3 (.cells (ints .u64 (List.replicate 4 0)) 24 (0, 0)))] [blk b0 (.cells (ints .u64 (dl 18446744073709551616 4 (a))) 24 (0, 0)), blk b1 (.cells (ints .u64 (dl 18446744073709551616 4 (b))) 24 (0, 0)), blk _ (.cells (ints .u64 (dl 18446744073709551616 4 (q))) 24 (0, 0)), blk _ (.cells (ints .u64 (dl 18446744073709551616 4 (r2))) 24 (0, 0))] rfl (by kernel_rfl) (Emb.idx [0, 1, 8, 9, 2, 3] rfl rfl) rfl (by kernel_rfl) ?_
      refine D0_valM rfl rfl rfl (Y_loadAI 2 (und rfl) rfl rfl rfl (siz rfl) (dl_length _ _ _)) ?_
      refine D0_valM rfl rfl rfl (Y_loadAI 3 (und rfl) rfl rfl rfl (siz rfl) (dl_length _ _ _)) ?_
      refine D0_nilL ?_
      refine DL_storeAI rfl (fun _ => rfl) rfl (siz rfl) (fun _ => rfl) (fun _ => rfl) rfl (dl_length _ _ _) ?_
      refine DL_storeAI rfl (fun _ => rfl) rfl (siz rfl) (fun _ => rfl) (fun _ => rfl) rfl (dl_length _ _ _) ?_
      refine DL_nil fun _ => ?_
      refine X_seq ?_
      refine T_ret ?_
      ((first | refine X_fin_ret ?_ | refine X_fin ?_); exact ⟨[_, _], [], .cons (.agg 4 rfl (und rfl) rfl rfl (siz rfl)) (.cons (.agg 5 rfl (und rfl) rfl rfl (siz rfl)) .nil), Emb.nil _, rfl, rfl⟩)
end Go.Proofs.YtchoncjikdfbgaaGreat
