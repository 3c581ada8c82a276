import Derived.Test.YtchoncjikdfbgaaDoorPrec2
/- The law PrecPaid hands back true. -/
namespace Go.Proofs.YtchoncjikdfbgaaDoor
open Go.RowKit
set_option maxRecDepth 20000
set_option maxHeartbeats 40000000

theorem bel_byl (n x : Nat) : ∃ bs : List U8, bel n x = byl bs ∧ bs.length = n := by
  refine ⟨(bel n x).map fun z => BitVec.ofInt 8 z, List.ext_getElem? fun i => ?_, by rw [List.length_map, bel_length]⟩
  unfold byl
  rw [List.map_map, List.getElem?_map]
  by_cases h : i < n
  · rw [bel_get h]
    show _ = some _
    congr 1
    have hd : x / 256 ^ (n - 1 - i) % 256 < 256 := Nat.mod_lt _ (by omega)
    generalize x / 256 ^ (n - 1 - i) % 256 = d at *
    show ((d : Nat) : Int) = (((BitVec.ofInt 8 (d : Int)).toNat : Nat) : Int)
    rw [BitVec.toNat_ofInt]
    omega
  · rw [List.getElem?_eq_none (by rw [bel_length]; omega)]
    rfl
theorem paid_2 (n x : Nat) (hx : x < 256 ^ n) (hn : n ≤ 1000) (K : List U32) (hK : K.length = 64) (v : Value) (w : World) (hgb : Rd w (.slice (some ⟨0, 0, none⟩) 64 64) .u32 (bvl K)) (hr : Rd w v .u8 (bel n x)) : Fn Tryd.prog 3 #[.int .i64 2, v] w fun u N => u = .bool true ∧ N = [] := by
  have hbl := bel_length n x
  obtain ⟨bs, hbs, hbsl⟩ := bel_byl n x
  have hpl := priceN_lt 2 n x (by omega)
  have hpos : 0 < priceN 2 n x := by unfold priceN; rw [if_pos rfl]; omega
  have pr := fun w h => price_any 2 n x hx (by omega) v w h
  have rp := fun w h => rprice_any 2 n x hx (by omega) v w h
  have rn := fun w hg h => prun_2 n x _ (priceN 2 n x) bs hbs hbsl K hK rfl hx (by omega) hpl (Nat.le_refl _) v w hg h
  have lo := fun w h => prun_low 2 n x _ (priceN 2 n x - 1) rfl hx (by omega) hpl (by omega) v w h
  generalize priceN 2 n x = p at *
  rw [Nat.sub_self] at rn
  clear hx hbs hbsl
  refine Fn_of (args := [.int .i64 2, v]) Tryd.func3 rfl Tryd.ntmps3 Tryd.results3 (by simp) ?_
  refine T_seq ?_
  refine T_region ?_
  refine S_val rfl rfl (Y_assign rfl) ?_
  refine S_nil ?_
  refine X_seq ?_
  refine T_seq ?_
  refine T_seq ?_
  refine T_region ?_
  refine S_val rfl rfl (Y_move rfl) ?_
  refine S_val rfl rfl (Y_lenV rfl (und rfl) rfl (fun _ hs => Rd.st (by assumption) hs) (bel_length _ _)) ?_
  refine S_val rfl rfl (Y_gtr_f rfl rfl (by omega)) ?_
  refine S_val rfl rfl (Y_move rfl) ?_
  refine S_val rfl rfl (Y_move rfl) ?_
  refine S_val rfl rfl (Y_eql_f rfl rfl (by decide)) ?_
  refine S_val rfl rfl (Y_move rfl) ?_
  refine S_skip rfl rfl ?_
  refine S_skip rfl rfl ?_
  refine S_skip rfl rfl ?_
  refine S_val rfl rfl (Y_pick_f rfl rfl) ?_
  refine S_val rfl rfl (Y_pick_f rfl rfl) ?_
  refine S_nil ?_
  refine X_seq ?_
  refine T_cond_false rfl ?_
  refine T_skip ?_
  refine X_seq ?_
  refine T_seq ?_
  refine T_region ?_
  refine S_val rfl rfl (Y_move rfl) ?_
  refine S_val rfl rfl (Y_move rfl) ?_
  refine S_callV rfl rfl (bod rfl) (fun w hs => pr _ (by first | exact hs.rowRd 0 rfl | exact hs.rowRd 1 rfl | exact hs.rowRd 2 rfl | exact hs.rowRd 3 rfl | exact hs.rowRd 4 rfl | exact hs.rowRd 5 rfl | exact hs.rowRd 6 rfl | exact hs.rowRd 7 rfl | exact hs.rowRd 8 rfl | exact hs.rowRd 9 rfl | exact hs.rowRd 10 rfl | exact hs.rowRd 11 rfl | exact hs.rowRd 12 rfl | exact hs.rowRd 13 rfl | exact Rd.st (by assumption) hs)) rfl rfl ?_
  refine S_val rfl rfl (Y_assign rfl) ?_
  refine S_nil ?_
  refine X_seq ?_
  refine T_seq ?_
  refine T_seq ?_
  refine T_region ?_
  refine S_val rfl rfl (Y_move rfl) ?_
  refine S_val rfl rfl (Y_move rfl) ?_
  refine S_val rfl rfl (Y_move rfl) ?_
  refine S_callV rfl rfl (bod rfl) (fun w hs => rp _ (by first | exact hs.rowRd 0 rfl | exact hs.rowRd 1 rfl | exact hs.rowRd 2 rfl | exact hs.rowRd 3 rfl | exact hs.rowRd 4 rfl | exact hs.rowRd 5 rfl | exact hs.rowRd 6 rfl | exact hs.rowRd 7 rfl | exact hs.rowRd 8 rfl | exact hs.rowRd 9 rfl | exact hs.rowRd 10 rfl | exact hs.rowRd 11 rfl | exact hs.rowRd 12 rfl | exact hs.rowRd 13 rfl | exact Rd.st (by assumption) hs)) rfl rfl ?_
  refine S_val rfl rfl (Y_neq_f rfl rfl (by omega)) ?_
  refine S_nil ?_
  refine X_seq ?_
  refine T_cond_false rfl ?_
  refine T_skip ?_
  refine X_seq ?_
  refine T_seq ?_
  refine T_region ?_
  refine S_val rfl rfl (Y_move rfl) ?_
  refine S_val rfl rfl (Y_move rfl) ?_
  refine S_val rfl rfl (Y_move rfl) ?_
  refine S_call _ rfl rfl (bod rfl) (fun w hs => rn _ (Rd.st hgb hs) (Rd.st hr hs)) rfl rfl ?_
  rintro _ _ ⟨b, rfl, rfl⟩
  refine S_val rfl rfl (Y_move rfl) ?_
  refine S_val rfl rfl (Y_extract rfl rfl) ?_
  refine S_val rfl rfl (Y_extract rfl rfl) ?_
  refine S_val rfl rfl (Y_extract rfl rfl) ?_
  refine S_val rfl rfl (Y_assign rfl) ?_
  refine S_val rfl rfl (Y_assign rfl) ?_
  refine S_val rfl rfl (Y_assign rfl) ?_
  refine S_nil ?_
  refine X_seq ?_
  refine T_seq ?_
  refine T_seq ?_
  refine T_region ?_
  refine S_val rfl rfl (Y_move rfl) ?_
  refine S_val rfl rfl (Y_neq_f rfl rfl (by decide)) ?_
  refine S_val rfl rfl (Y_move rfl) ?_
  refine S_val rfl rfl (Y_move rfl) ?_
  refine S_val rfl rfl (Y_not rfl rfl) ?_
  refine S_val rfl rfl (Y_move rfl) ?_
  refine S_skip rfl rfl ?_
  refine S_skip rfl rfl ?_
  refine S_val rfl rfl (Y_pick_f rfl rfl) ?_
  refine S_val rfl rfl (Y_pick_f rfl rfl) ?_
  refine S_val rfl rfl (Y_move rfl) ?_
  refine S_val rfl rfl (Y_move rfl) ?_
  refine S_val rfl rfl (Y_not rfl rfl) ?_
  refine S_val rfl rfl (Y_move rfl) ?_
  refine S_skip rfl rfl ?_
  refine S_skip rfl rfl ?_
  refine S_skip rfl rfl ?_
  refine S_val rfl rfl (Y_pick_f rfl rfl) ?_
  refine S_val rfl rfl (Y_pick_f rfl rfl) ?_
  refine S_nil ?_
  refine X_seq ?_
  refine T_cond_false rfl ?_
  refine T_skip ?_
  refine X_seq ?_
  refine T_seq ?_
  refine T_seq ?_
  refine T_region ?_
  refine S_val rfl rfl (Y_move rfl) ?_
  refine S_val rfl rfl (Y_eql_f rfl rfl (by omega)) ?_
  refine S_nil ?_
  refine X_seq ?_
  refine T_cond_false rfl ?_
  refine T_skip ?_
  refine X_seq ?_
  refine T_seq ?_
  refine T_region ?_
  refine S_val rfl rfl (Y_move rfl) ?_
  refine S_val rfl rfl (Y_move rfl) ?_
  refine S_val rfl rfl (Y_move rfl) ?_
  refine S_val rfl rfl (Y_subU rfl rfl (nat_cast _) (nat_lit' _) rfl (by assumption) (by simp only [IntKind.bits]; assumption)) ?_
  refine S_callV rfl rfl (bod rfl) (fun w hs => lo _ (by first | exact hs.rowRd 0 rfl | exact hs.rowRd 1 rfl | exact hs.rowRd 2 rfl | exact hs.rowRd 3 rfl | exact hs.rowRd 4 rfl | exact hs.rowRd 5 rfl | exact hs.rowRd 6 rfl | exact hs.rowRd 7 rfl | exact hs.rowRd 8 rfl | exact hs.rowRd 9 rfl | exact hs.rowRd 10 rfl | exact hs.rowRd 11 rfl | exact hs.rowRd 12 rfl | exact hs.rowRd 13 rfl | exact Rd.st (by assumption) hs)) rfl rfl ?_
  refine S_val rfl rfl (Y_move rfl) ?_
  refine S_val rfl rfl (Y_extract rfl rfl) ?_
  refine S_val rfl rfl (Y_extract rfl rfl) ?_
  refine S_val rfl rfl (Y_extract rfl rfl) ?_
  refine S_val rfl rfl (Y_assign rfl) ?_
  refine S_val rfl rfl (Y_assign rfl) ?_
  refine S_val rfl rfl (Y_assign rfl) ?_
  refine S_nil ?_
  refine X_seq ?_
  refine T_seq ?_
  refine T_region ?_
  refine S_callV rfl rfl (bod rfl) (fun w hs => pfixed_any _) rfl rfl ?_
  refine S_val rfl rfl (Y_move rfl) ?_
  refine S_val rfl rfl (Y_move rfl) ?_
  refine S_val rfl rfl (Y_len rfl (und rfl) rfl) ?_
  refine S_val rfl rfl (Y_eql_t rfl rfl (by decide)) ?_
  refine S_val rfl rfl (Y_pick_t rfl rfl) ?_
  refine S_val rfl rfl (Y_move rfl) ?_
  refine S_val rfl rfl (Y_move rfl) ?_
  refine S_val rfl rfl (Y_eql_t rfl rfl (by decide)) ?_
  refine S_val rfl rfl (Y_pick_t rfl rfl) ?_
  refine S_val rfl rfl (Y_move rfl) ?_
  refine S_val rfl rfl (Y_move rfl) ?_
  refine S_val rfl rfl (Y_not rfl rfl) ?_
  refine S_val rfl rfl (Y_pick_t rfl rfl) ?_
  refine S_val rfl rfl (Y_assign rfl) ?_
  refine S_nil ?_
  refine X_seq ?_
  refine T_ret ?_
  ((first | refine X_fin_ret ?_ | refine X_fin ?_); exact ⟨[_], [], .cons (.tmp rfl) .nil, Emb.nil _, rfl, rfl⟩)
theorem paid_4 (n x : Nat) (hx : x < 256 ^ n) (hn : n ≤ 1000) (v : Value) (w : World) (hr : Rd w v .u8 (bel n x)) : Fn Tryd.prog 3 #[.int .i64 4, v] w fun u N => u = .bool true ∧ N = [] := by
  have hbl := bel_length n x
  have hpl := priceN_lt 4 n x (by omega)
  have hpos : 0 < priceN 4 n x := by unfold priceN; rw [if_neg (by decide), if_pos rfl]; omega
  have pr := fun w h => price_any 4 n x hx (by omega) v w h
  have rp := fun w h => rprice_any 4 n x hx (by omega) v w h
  have rn := fun w h => prun_4 n x _ (priceN 4 n x) rfl hx (by omega) hpl (Nat.le_refl _) v w h
  have lo := fun w h => prun_low 4 n x _ (priceN 4 n x - 1) rfl hx (by omega) hpl (by omega) v w h
  generalize priceN 4 n x = p at *
  rw [Nat.sub_self] at rn
  clear hx
  refine Fn_of (args := [.int .i64 4, v]) Tryd.func3 rfl Tryd.ntmps3 Tryd.results3 (by simp) ?_
  refine T_seq ?_
  refine T_region ?_
  refine S_val rfl rfl (Y_assign rfl) ?_
  refine S_nil ?_
  refine X_seq ?_
  refine T_seq ?_
  refine T_seq ?_
  refine T_region ?_
  refine S_val rfl rfl (Y_move rfl) ?_
  refine S_val rfl rfl (Y_lenV rfl (und rfl) rfl (fun _ hs => Rd.st (by assumption) hs) (bel_length _ _)) ?_
  refine S_val rfl rfl (Y_gtr_f rfl rfl (by omega)) ?_
  refine S_val rfl rfl (Y_move rfl) ?_
  refine S_val rfl rfl (Y_move rfl) ?_
  refine S_val rfl rfl (Y_eql_f rfl rfl (by decide)) ?_
  refine S_val rfl rfl (Y_move rfl) ?_
  refine S_skip rfl rfl ?_
  refine S_skip rfl rfl ?_
  refine S_skip rfl rfl ?_
  refine S_val rfl rfl (Y_pick_f rfl rfl) ?_
  refine S_val rfl rfl (Y_pick_f rfl rfl) ?_
  refine S_nil ?_
  refine X_seq ?_
  refine T_cond_false rfl ?_
  refine T_skip ?_
  refine X_seq ?_
  refine T_seq ?_
  refine T_region ?_
  refine S_val rfl rfl (Y_move rfl) ?_
  refine S_val rfl rfl (Y_move rfl) ?_
  refine S_callV rfl rfl (bod rfl) (fun w hs => pr _ (by first | exact hs.rowRd 0 rfl | exact hs.rowRd 1 rfl | exact hs.rowRd 2 rfl | exact hs.rowRd 3 rfl | exact hs.rowRd 4 rfl | exact hs.rowRd 5 rfl | exact hs.rowRd 6 rfl | exact hs.rowRd 7 rfl | exact hs.rowRd 8 rfl | exact hs.rowRd 9 rfl | exact hs.rowRd 10 rfl | exact hs.rowRd 11 rfl | exact hs.rowRd 12 rfl | exact hs.rowRd 13 rfl | exact Rd.st (by assumption) hs)) rfl rfl ?_
  refine S_val rfl rfl (Y_assign rfl) ?_
  refine S_nil ?_
  refine X_seq ?_
  refine T_seq ?_
  refine T_seq ?_
  refine T_region ?_
  refine S_val rfl rfl (Y_move rfl) ?_
  refine S_val rfl rfl (Y_move rfl) ?_
  refine S_val rfl rfl (Y_move rfl) ?_
  refine S_callV rfl rfl (bod rfl) (fun w hs => rp _ (by first | exact hs.rowRd 0 rfl | exact hs.rowRd 1 rfl | exact hs.rowRd 2 rfl | exact hs.rowRd 3 rfl | exact hs.rowRd 4 rfl | exact hs.rowRd 5 rfl | exact hs.rowRd 6 rfl | exact hs.rowRd 7 rfl | exact hs.rowRd 8 rfl | exact hs.rowRd 9 rfl | exact hs.rowRd 10 rfl | exact hs.rowRd 11 rfl | exact hs.rowRd 12 rfl | exact hs.rowRd 13 rfl | exact Rd.st (by assumption) hs)) rfl rfl ?_
  refine S_val rfl rfl (Y_neq_f rfl rfl (by omega)) ?_
  refine S_nil ?_
  refine X_seq ?_
  refine T_cond_false rfl ?_
  refine T_skip ?_
  refine X_seq ?_
  refine T_seq ?_
  refine T_region ?_
  refine S_val rfl rfl (Y_move rfl) ?_
  refine S_val rfl rfl (Y_move rfl) ?_
  refine S_val rfl rfl (Y_move rfl) ?_
  refine S_call _ rfl rfl (bod rfl) (fun w hs => rn _ (Rd.st hr hs)) rfl rfl ?_
  rintro _ _ ⟨b, rfl, rfl⟩
  refine S_val rfl rfl (Y_move rfl) ?_
  refine S_val rfl rfl (Y_extract rfl rfl) ?_
  refine S_val rfl rfl (Y_extract rfl rfl) ?_
  refine S_val rfl rfl (Y_extract rfl rfl) ?_
  refine S_val rfl rfl (Y_assign rfl) ?_
  refine S_val rfl rfl (Y_assign rfl) ?_
  refine S_val rfl rfl (Y_assign rfl) ?_
  refine S_nil ?_
  refine X_seq ?_
  refine T_seq ?_
  refine T_seq ?_
  refine T_region ?_
  refine S_val rfl rfl (Y_move rfl) ?_
  refine S_val rfl rfl (Y_neq_f rfl rfl (by decide)) ?_
  refine S_val rfl rfl (Y_move rfl) ?_
  refine S_val rfl rfl (Y_move rfl) ?_
  refine S_val rfl rfl (Y_not rfl rfl) ?_
  refine S_val rfl rfl (Y_move rfl) ?_
  refine S_skip rfl rfl ?_
  refine S_skip rfl rfl ?_
  refine S_val rfl rfl (Y_pick_f rfl rfl) ?_
  refine S_val rfl rfl (Y_pick_f rfl rfl) ?_
  refine S_val rfl rfl (Y_move rfl) ?_
  refine S_val rfl rfl (Y_move rfl) ?_
  refine S_val rfl rfl (Y_not rfl rfl) ?_
  refine S_val rfl rfl (Y_move rfl) ?_
  refine S_skip rfl rfl ?_
  refine S_skip rfl rfl ?_
  refine S_skip rfl rfl ?_
  refine S_val rfl rfl (Y_pick_f rfl rfl) ?_
  refine S_val rfl rfl (Y_pick_f rfl rfl) ?_
  refine S_nil ?_
  refine X_seq ?_
  refine T_cond_false rfl ?_
  refine T_skip ?_
  refine X_seq ?_
  refine T_seq ?_
  refine T_seq ?_
  refine T_region ?_
  refine S_val rfl rfl (Y_move rfl) ?_
  refine S_val rfl rfl (Y_eql_f rfl rfl (by omega)) ?_
  refine S_nil ?_
  refine X_seq ?_
  refine T_cond_false rfl ?_
  refine T_skip ?_
  refine X_seq ?_
  refine T_seq ?_
  refine T_region ?_
  refine S_val rfl rfl (Y_move rfl) ?_
  refine S_val rfl rfl (Y_move rfl) ?_
  refine S_val rfl rfl (Y_move rfl) ?_
  refine S_val rfl rfl (Y_subU rfl rfl (nat_cast _) (nat_lit' _) rfl (by assumption) (by simp only [IntKind.bits]; assumption)) ?_
  refine S_callV rfl rfl (bod rfl) (fun w hs => lo _ (by first | exact hs.rowRd 0 rfl | exact hs.rowRd 1 rfl | exact hs.rowRd 2 rfl | exact hs.rowRd 3 rfl | exact hs.rowRd 4 rfl | exact hs.rowRd 5 rfl | exact hs.rowRd 6 rfl | exact hs.rowRd 7 rfl | exact hs.rowRd 8 rfl | exact hs.rowRd 9 rfl | exact hs.rowRd 10 rfl | exact hs.rowRd 11 rfl | exact hs.rowRd 12 rfl | exact hs.rowRd 13 rfl | exact Rd.st (by assumption) hs)) rfl rfl ?_
  refine S_val rfl rfl (Y_move rfl) ?_
  refine S_val rfl rfl (Y_extract rfl rfl) ?_
  refine S_val rfl rfl (Y_extract rfl rfl) ?_
  refine S_val rfl rfl (Y_extract rfl rfl) ?_
  refine S_val rfl rfl (Y_assign rfl) ?_
  refine S_val rfl rfl (Y_assign rfl) ?_
  refine S_val rfl rfl (Y_assign rfl) ?_
  refine S_nil ?_
  refine X_seq ?_
  refine T_seq ?_
  refine T_region ?_
  refine S_callV rfl rfl (bod rfl) (fun w hs => pfixed_any _) rfl rfl ?_
  refine S_val rfl rfl (Y_move rfl) ?_
  refine S_val rfl rfl (Y_move rfl) ?_
  refine S_val rfl rfl (Y_len rfl (und rfl) rfl) ?_
  refine S_val rfl rfl (Y_eql_t rfl rfl (by decide)) ?_
  refine S_val rfl rfl (Y_pick_t rfl rfl) ?_
  refine S_val rfl rfl (Y_move rfl) ?_
  refine S_val rfl rfl (Y_move rfl) ?_
  refine S_val rfl rfl (Y_eql_t rfl rfl (by decide)) ?_
  refine S_val rfl rfl (Y_pick_t rfl rfl) ?_
  refine S_val rfl rfl (Y_move rfl) ?_
  refine S_val rfl rfl (Y_move rfl) ?_
  refine S_val rfl rfl (Y_not rfl rfl) ?_
  refine S_val rfl rfl (Y_pick_t rfl rfl) ?_
  refine S_val rfl rfl (Y_assign rfl) ?_
  refine S_nil ?_
  refine X_seq ?_
  refine T_ret ?_
  ((first | refine X_fin_ret ?_ | refine X_fin ?_); exact ⟨[_], [], .cons (.tmp rfl) .nil, Emb.nil _, rfl, rfl⟩)
theorem paid_none (q : Int) (h : q ≠ 2 ∧ q ≠ 4 ∧ q ≠ 5) (n x : Nat) (hx : x < 256 ^ n) (hn : n ≤ 1000) (v : Value) (w : World) (hr : Rd w v .u8 (bel n x)) : Fn Tryd.prog 3 #[.int .i64 q, v] w fun u N => u = .bool true ∧ N = [] := by
  have hbl := bel_length n x
  have pr := fun w h => price_any q n x hx (by omega) v w h
  have rp := fun w h => rprice_any q n x hx (by omega) v w h
  have rn := fun w h2 => prun_none q n x 0 h hx (by omega) (by omega) v w h2
  obtain ⟨h2, h4, h5⟩ := h
  have e : priceN q n x = 0 := by unfold priceN; rw [if_neg h2, if_neg h4, if_neg h5]
  rw [e] at pr rp
  clear hx e
  refine Fn_of (args := [.int .i64 q, v]) Tryd.func3 rfl Tryd.ntmps3 Tryd.results3 (by simp) ?_
  refine T_seq ?_
  refine T_region ?_
  refine S_val rfl rfl (Y_assign rfl) ?_
  refine S_nil ?_
  refine X_seq ?_
  refine T_seq ?_
  refine T_seq ?_
  refine T_region ?_
  refine S_val rfl rfl (Y_move rfl) ?_
  refine S_val rfl rfl (Y_lenV rfl (und rfl) rfl (fun _ hs => Rd.st (by assumption) hs) (bel_length _ _)) ?_
  refine S_val rfl rfl (Y_gtr_f rfl rfl (by omega)) ?_
  refine S_val rfl rfl (Y_move rfl) ?_
  refine S_val rfl rfl (Y_move rfl) ?_
  refine S_val rfl rfl (Y_eql_f rfl rfl (by assumption)) ?_
  refine S_val rfl rfl (Y_move rfl) ?_
  refine S_skip rfl rfl ?_
  refine S_skip rfl rfl ?_
  refine S_skip rfl rfl ?_
  refine S_val rfl rfl (Y_pick_f rfl rfl) ?_
  refine S_val rfl rfl (Y_pick_f rfl rfl) ?_
  refine S_nil ?_
  refine X_seq ?_
  refine T_cond_false rfl ?_
  refine T_skip ?_
  refine X_seq ?_
  refine T_seq ?_
  refine T_region ?_
  refine S_val rfl rfl (Y_move rfl) ?_
  refine S_val rfl rfl (Y_move rfl) ?_
  refine S_callV rfl rfl (bod rfl) (fun w hs => pr _ (by first | exact hs.rowRd 0 rfl | exact hs.rowRd 1 rfl | exact hs.rowRd 2 rfl | exact hs.rowRd 3 rfl | exact hs.rowRd 4 rfl | exact hs.rowRd 5 rfl | exact hs.rowRd 6 rfl | exact hs.rowRd 7 rfl | exact hs.rowRd 8 rfl | exact hs.rowRd 9 rfl | exact hs.rowRd 10 rfl | exact hs.rowRd 11 rfl | exact hs.rowRd 12 rfl | exact hs.rowRd 13 rfl | exact Rd.st (by assumption) hs)) rfl rfl ?_
  refine S_val rfl rfl (Y_assign rfl) ?_
  refine S_nil ?_
  refine X_seq ?_
  refine T_seq ?_
  refine T_seq ?_
  refine T_region ?_
  refine S_val rfl rfl (Y_move rfl) ?_
  refine S_val rfl rfl (Y_move rfl) ?_
  refine S_val rfl rfl (Y_move rfl) ?_
  refine S_callV rfl rfl (bod rfl) (fun w hs => rp _ (by first | exact hs.rowRd 0 rfl | exact hs.rowRd 1 rfl | exact hs.rowRd 2 rfl | exact hs.rowRd 3 rfl | exact hs.rowRd 4 rfl | exact hs.rowRd 5 rfl | exact hs.rowRd 6 rfl | exact hs.rowRd 7 rfl | exact hs.rowRd 8 rfl | exact hs.rowRd 9 rfl | exact hs.rowRd 10 rfl | exact hs.rowRd 11 rfl | exact hs.rowRd 12 rfl | exact hs.rowRd 13 rfl | exact Rd.st (by assumption) hs)) rfl rfl ?_
  refine S_val rfl rfl (Y_neq_f rfl rfl (by decide)) ?_
  refine S_nil ?_
  refine X_seq ?_
  refine T_cond_false rfl ?_
  refine T_skip ?_
  refine X_seq ?_
  refine T_seq ?_
  refine T_region ?_
  refine S_val rfl rfl (Y_move rfl) ?_
  refine S_val rfl rfl (Y_move rfl) ?_
  refine S_val rfl rfl (Y_move rfl) ?_
  refine S_callV rfl rfl (bod rfl) (fun w hs => rn _ (Rd.st hr hs)) rfl rfl ?_
  refine S_val rfl rfl (Y_move rfl) ?_
  refine S_val rfl rfl (Y_extract rfl rfl) ?_
  refine S_val rfl rfl (Y_extract rfl rfl) ?_
  refine S_val rfl rfl (Y_extract rfl rfl) ?_
  refine S_val rfl rfl (Y_assign rfl) ?_
  refine S_val rfl rfl (Y_assign rfl) ?_
  refine S_val rfl rfl (Y_assign rfl) ?_
  refine S_nil ?_
  refine X_seq ?_
  refine T_seq ?_
  refine T_seq ?_
  refine T_region ?_
  refine S_val rfl rfl (Y_move rfl) ?_
  refine S_val rfl rfl (Y_neq_f rfl rfl (by decide)) ?_
  refine S_val rfl rfl (Y_move rfl) ?_
  refine S_val rfl rfl (Y_move rfl) ?_
  refine S_val rfl rfl (Y_not rfl rfl) ?_
  refine S_val rfl rfl (Y_move rfl) ?_
  refine S_skip rfl rfl ?_
  refine S_skip rfl rfl ?_
  refine S_val rfl rfl (Y_pick_f rfl rfl) ?_
  refine S_val rfl rfl (Y_pick_f rfl rfl) ?_
  refine S_val rfl rfl (Y_move rfl) ?_
  refine S_val rfl rfl (Y_move rfl) ?_
  refine S_val rfl rfl (Y_not rfl rfl) ?_
  refine S_val rfl rfl (Y_move rfl) ?_
  refine S_skip rfl rfl ?_
  refine S_skip rfl rfl ?_
  refine S_skip rfl rfl ?_
  refine S_val rfl rfl (Y_pick_f rfl rfl) ?_
  refine S_val rfl rfl (Y_pick_f rfl rfl) ?_
  refine S_nil ?_
  refine X_seq ?_
  refine T_cond_false rfl ?_
  refine T_skip ?_
  refine X_seq ?_
  refine T_seq ?_
  refine T_seq ?_
  refine T_region ?_
  refine S_val rfl rfl (Y_move rfl) ?_
  refine S_val rfl rfl (Y_eql_t rfl rfl (by decide)) ?_
  refine S_nil ?_
  refine X_seq ?_
  refine T_cond_true rfl ?_
  refine T_seq ?_
  refine T_region ?_
  refine S_callV rfl rfl (bod rfl) (fun w hs => pfixed_any _) rfl rfl ?_
  refine S_val rfl rfl (Y_assign rfl) ?_
  refine S_nil ?_
  refine X_seq ?_
  refine T_ret ?_
  refine X_seq_ret ?_
  ((first | refine X_fin_ret ?_ | refine X_fin ?_); exact ⟨[_], [], .cons (.tmp rfl) .nil, Emb.nil _, rfl, rfl⟩)
theorem paid_5 (n x : Nat) (hx : x < 256 ^ n) (hn : n ≤ 1000) (v : Value) (w : World) (hr : Rd w v .u8 (bel n x)) : Fn Tryd.prog 3 #[.int .i64 5, v] w fun u N => u = .bool true ∧ N = [] := by
  have hbl := bel_length n x
  have hpl := priceN_lt 5 n x (by omega)
  have hpos : 0 < priceN 5 n x := by unfold priceN; rw [if_neg (by decide), if_neg (by decide), if_pos rfl]; exact gasN_pos n x
  have pr := fun w h => price_any 5 n x hx (by omega) v w h
  have rp := fun w h => rprice_any 5 n x hx (by omega) v w h
  have rn := fun w h => prun_5 n x _ (priceN 5 n x) rfl hx (by omega) hpl (Nat.le_refl _) v w h
  have lo := fun w h => prun_low 5 n x _ (priceN 5 n x - 1) rfl hx (by omega) hpl (by omega) v w h
  have sh := fun w h => short16_any n x hx (by omega) v w h
  generalize priceN 5 n x = p at *
  rw [Nat.sub_self] at rn
  generalize bel (lenN n x 2) (runN n x) = z at *
  clear hx
  refine Fn_of (args := [.int .i64 5, v]) Tryd.func3 rfl Tryd.ntmps3 Tryd.results3 (by simp) ?_
  refine T_seq ?_
  refine T_region ?_
  refine S_val rfl rfl (Y_assign rfl) ?_
  refine S_nil ?_
  refine X_seq ?_
  refine T_seq ?_
  refine T_seq ?_
  refine T_region ?_
  refine S_val rfl rfl (Y_move rfl) ?_
  refine S_val rfl rfl (Y_lenV rfl (und rfl) rfl (fun _ hs => Rd.st (by assumption) hs) (bel_length _ _)) ?_
  refine S_val rfl rfl (Y_gtr_f rfl rfl (by omega)) ?_
  refine S_val rfl rfl (Y_move rfl) ?_
  refine S_val rfl rfl (Y_move rfl) ?_
  refine S_val rfl rfl (Y_eql_t rfl rfl (by decide)) ?_
  refine S_val rfl rfl (Y_move rfl) ?_
  refine S_val rfl rfl (Y_move rfl) ?_
  refine S_call _ rfl rfl (bod rfl) (fun w hs => sh _ (Rd.st hr hs)) rfl rfl ?_
  rintro _ _ ⟨⟨b, rfl⟩, rfl⟩
  cases b
  · refine S_val rfl rfl (Y_not rfl rfl) ?_
    refine S_val rfl rfl (Y_pick_t rfl rfl) ?_
    refine S_val rfl rfl (Y_pick_f rfl rfl) ?_
    refine S_nil ?_
    refine X_seq ?_
    refine T_cond_true rfl ?_
    refine T_seq ?_
    refine T_region ?_
    refine S_callV rfl rfl (bod rfl) (fun w hs => pfixed_any _) rfl rfl ?_
    refine S_val rfl rfl (Y_assign rfl) ?_
    refine S_nil ?_
    refine X_seq ?_
    refine T_ret ?_
    refine X_seq_ret ?_
    ((first | refine X_fin_ret ?_ | refine X_fin ?_); exact ⟨[_], [], .cons (.tmp rfl) .nil, Emb.nil _, rfl, rfl⟩)
  · refine S_val rfl rfl (Y_not rfl rfl) ?_
    refine S_val rfl rfl (Y_pick_t rfl rfl) ?_
    refine S_val rfl rfl (Y_pick_f rfl rfl) ?_
    refine S_nil ?_
    refine X_seq ?_
    refine T_cond_false rfl ?_
    refine T_skip ?_
    refine X_seq ?_
    refine T_seq ?_
    refine T_region ?_
    refine S_val rfl rfl (Y_move rfl) ?_
    refine S_val rfl rfl (Y_move rfl) ?_
    refine S_callV rfl rfl (bod rfl) (fun w hs => pr _ (by first | exact hs.rowRd 0 rfl | exact hs.rowRd 1 rfl | exact hs.rowRd 2 rfl | exact hs.rowRd 3 rfl | exact hs.rowRd 4 rfl | exact hs.rowRd 5 rfl | exact hs.rowRd 6 rfl | exact hs.rowRd 7 rfl | exact hs.rowRd 8 rfl | exact hs.rowRd 9 rfl | exact hs.rowRd 10 rfl | exact hs.rowRd 11 rfl | exact hs.rowRd 12 rfl | exact hs.rowRd 13 rfl | exact Rd.st (by assumption) hs)) rfl rfl ?_
    refine S_val rfl rfl (Y_assign rfl) ?_
    refine S_nil ?_
    refine X_seq ?_
    refine T_seq ?_
    refine T_seq ?_
    refine T_region ?_
    refine S_val rfl rfl (Y_move rfl) ?_
    refine S_val rfl rfl (Y_move rfl) ?_
    refine S_val rfl rfl (Y_move rfl) ?_
    refine S_callV rfl rfl (bod rfl) (fun w hs => rp _ (by first | exact hs.rowRd 0 rfl | exact hs.rowRd 1 rfl | exact hs.rowRd 2 rfl | exact hs.rowRd 3 rfl | exact hs.rowRd 4 rfl | exact hs.rowRd 5 rfl | exact hs.rowRd 6 rfl | exact hs.rowRd 7 rfl | exact hs.rowRd 8 rfl | exact hs.rowRd 9 rfl | exact hs.rowRd 10 rfl | exact hs.rowRd 11 rfl | exact hs.rowRd 12 rfl | exact hs.rowRd 13 rfl | exact Rd.st (by assumption) hs)) rfl rfl ?_
    refine S_val rfl rfl (Y_neq_f rfl rfl (by omega)) ?_
    refine S_nil ?_
    refine X_seq ?_
    refine T_cond_false rfl ?_
    refine T_skip ?_
    refine X_seq ?_
    refine T_seq ?_
    refine T_region ?_
    refine S_val rfl rfl (Y_move rfl) ?_
    refine S_val rfl rfl (Y_move rfl) ?_
    refine S_val rfl rfl (Y_move rfl) ?_
    refine S_call _ rfl rfl (bod rfl) (fun w hs => rn _ (Rd.st hr hs)) rfl rfl ?_
    rintro _ _ (⟨rfl, rfl⟩ | ⟨rfl, rfl⟩ | ⟨u, rfl, rfl⟩)
    · refine S_val rfl rfl (Y_move rfl) ?_
      refine S_val rfl rfl (Y_extract rfl rfl) ?_
      refine S_val rfl rfl (Y_extract rfl rfl) ?_
      refine S_val rfl rfl (Y_extract rfl rfl) ?_
      refine S_val rfl rfl (Y_assign rfl) ?_
      refine S_val rfl rfl (Y_assign rfl) ?_
      refine S_val rfl rfl (Y_assign rfl) ?_
      refine S_nil ?_
      refine X_seq ?_
      refine T_seq ?_
      refine T_seq ?_
      refine T_region ?_
      refine S_val rfl rfl (Y_move rfl) ?_
      refine S_val rfl rfl (Y_neq_f rfl rfl (by decide)) ?_
      refine S_val rfl rfl (Y_move rfl) ?_
      refine S_val rfl rfl (Y_move rfl) ?_
      refine S_val rfl rfl (Y_not rfl rfl) ?_
      refine S_val rfl rfl (Y_move rfl) ?_
      refine S_skip rfl rfl ?_
      refine S_skip rfl rfl ?_
      refine S_val rfl rfl (Y_pick_f rfl rfl) ?_
      refine S_val rfl rfl (Y_pick_f rfl rfl) ?_
      refine S_val rfl rfl (Y_move rfl) ?_
      refine S_val rfl rfl (Y_move rfl) ?_
      refine S_val rfl rfl (Y_not rfl rfl) ?_
      refine S_val rfl rfl (Y_move rfl) ?_
      refine S_skip rfl rfl ?_
      refine S_skip rfl rfl ?_
      refine S_skip rfl rfl ?_
      refine S_val rfl rfl (Y_pick_f rfl rfl) ?_
      refine S_val rfl rfl (Y_pick_f rfl rfl) ?_
      refine S_nil ?_
      refine X_seq ?_
      refine T_cond_false rfl ?_
      refine T_skip ?_
      refine X_seq ?_
      refine T_seq ?_
      refine T_seq ?_
      refine T_region ?_
      refine S_val rfl rfl (Y_move rfl) ?_
      refine S_val rfl rfl (Y_eql_f rfl rfl (by omega)) ?_
      refine S_nil ?_
      refine X_seq ?_
      refine T_cond_false rfl ?_
      refine T_skip ?_
      refine X_seq ?_
      refine T_seq ?_
      refine T_region ?_
      refine S_val rfl rfl (Y_move rfl) ?_
      refine S_val rfl rfl (Y_move rfl) ?_
      refine S_val rfl rfl (Y_move rfl) ?_
      refine S_val rfl rfl (Y_subU rfl rfl (nat_cast _) (nat_lit' _) rfl (by assumption) (by simp only [IntKind.bits]; assumption)) ?_
      refine S_callV rfl rfl (bod rfl) (fun w hs => lo _ (by first | exact hs.rowRd 0 rfl | exact hs.rowRd 1 rfl | exact hs.rowRd 2 rfl | exact hs.rowRd 3 rfl | exact hs.rowRd 4 rfl | exact hs.rowRd 5 rfl | exact hs.rowRd 6 rfl | exact hs.rowRd 7 rfl | exact hs.rowRd 8 rfl | exact hs.rowRd 9 rfl | exact hs.rowRd 10 rfl | exact hs.rowRd 11 rfl | exact hs.rowRd 12 rfl | exact hs.rowRd 13 rfl | exact Rd.st (by assumption) hs)) rfl rfl ?_
      refine S_val rfl rfl (Y_move rfl) ?_
      refine S_val rfl rfl (Y_extract rfl rfl) ?_
      refine S_val rfl rfl (Y_extract rfl rfl) ?_
      refine S_val rfl rfl (Y_extract rfl rfl) ?_
      refine S_val rfl rfl (Y_assign rfl) ?_
      refine S_val rfl rfl (Y_assign rfl) ?_
      refine S_val rfl rfl (Y_assign rfl) ?_
      refine S_nil ?_
      refine X_seq ?_
      refine T_seq ?_
      refine T_region ?_
      refine S_callV rfl rfl (bod rfl) (fun w hs => pfixed_any _) rfl rfl ?_
      refine S_val rfl rfl (Y_move rfl) ?_
      refine S_val rfl rfl (Y_move rfl) ?_
      refine S_val rfl rfl (Y_len rfl (und rfl) rfl) ?_
      refine S_val rfl rfl (Y_eql_t rfl rfl (by decide)) ?_
      refine S_val rfl rfl (Y_pick_t rfl rfl) ?_
      refine S_val rfl rfl (Y_move rfl) ?_
      refine S_val rfl rfl (Y_move rfl) ?_
      refine S_val rfl rfl (Y_eql_t rfl rfl (by decide)) ?_
      refine S_val rfl rfl (Y_pick_t rfl rfl) ?_
      refine S_val rfl rfl (Y_move rfl) ?_
      refine S_val rfl rfl (Y_move rfl) ?_
      refine S_val rfl rfl (Y_not rfl rfl) ?_
      refine S_val rfl rfl (Y_pick_t rfl rfl) ?_
      refine S_val rfl rfl (Y_assign rfl) ?_
      refine S_nil ?_
      refine X_seq ?_
      refine T_ret ?_
      ((first | refine X_fin_ret ?_ | refine X_fin ?_); exact ⟨[_], [], .cons (.tmp rfl) .nil, Emb.nil _, rfl, rfl⟩)
    · refine S_val rfl rfl (Y_move rfl) ?_
      refine S_val rfl rfl (Y_extract rfl rfl) ?_
      refine S_val rfl rfl (Y_extract rfl rfl) ?_
      refine S_val rfl rfl (Y_extract rfl rfl) ?_
      refine S_val rfl rfl (Y_assign rfl) ?_
      refine S_val rfl rfl (Y_assign rfl) ?_
      refine S_val rfl rfl (Y_assign rfl) ?_
      refine S_nil ?_
      refine X_seq ?_
      refine T_seq ?_
      refine T_seq ?_
      refine T_region ?_
      refine S_val rfl rfl (Y_move rfl) ?_
      refine S_val rfl rfl (Y_neq_f rfl rfl (by decide)) ?_
      refine S_val rfl rfl (Y_move rfl) ?_
      refine S_val rfl rfl (Y_move rfl) ?_
      refine S_val rfl rfl (Y_not rfl rfl) ?_
      refine S_val rfl rfl (Y_move rfl) ?_
      refine S_val rfl rfl (Y_move rfl) ?_
      refine S_val rfl rfl (Y_neq_f rfl rfl (by decide)) ?_
      refine S_val rfl rfl (Y_pick_t rfl rfl) ?_
      refine S_val rfl rfl (Y_pick_f rfl rfl) ?_
      refine S_val rfl rfl (Y_move rfl) ?_
      refine S_val rfl rfl (Y_move rfl) ?_
      refine S_val rfl rfl (Y_not rfl rfl) ?_
      refine S_val rfl rfl (Y_move rfl) ?_
      refine S_val rfl rfl (Y_move rfl) ?_
      refine S_val rfl rfl (Y_len rfl (und rfl) rfl) ?_
      refine S_val rfl rfl (Y_gtr_f rfl rfl (by decide)) ?_
      refine S_val rfl rfl (Y_pick_t rfl rfl) ?_
      refine S_val rfl rfl (Y_pick_f rfl rfl) ?_
      refine S_nil ?_
      refine X_seq ?_
      refine T_cond_false rfl ?_
      refine T_skip ?_
      refine X_seq ?_
      refine T_seq ?_
      refine T_seq ?_
      refine T_region ?_
      refine S_val rfl rfl (Y_move rfl) ?_
      refine S_val rfl rfl (Y_eql_f rfl rfl (by omega)) ?_
      refine S_nil ?_
      refine X_seq ?_
      refine T_cond_false rfl ?_
      refine T_skip ?_
      refine X_seq ?_
      refine T_seq ?_
      refine T_region ?_
      refine S_val rfl rfl (Y_move rfl) ?_
      refine S_val rfl rfl (Y_move rfl) ?_
      refine S_val rfl rfl (Y_move rfl) ?_
      refine S_val rfl rfl (Y_subU rfl rfl (nat_cast _) (nat_lit' _) rfl (by assumption) (by simp only [IntKind.bits]; assumption)) ?_
      refine S_callV rfl rfl (bod rfl) (fun w hs => lo _ (by first | exact hs.rowRd 0 rfl | exact hs.rowRd 1 rfl | exact hs.rowRd 2 rfl | exact hs.rowRd 3 rfl | exact hs.rowRd 4 rfl | exact hs.rowRd 5 rfl | exact hs.rowRd 6 rfl | exact hs.rowRd 7 rfl | exact hs.rowRd 8 rfl | exact hs.rowRd 9 rfl | exact hs.rowRd 10 rfl | exact hs.rowRd 11 rfl | exact hs.rowRd 12 rfl | exact hs.rowRd 13 rfl | exact Rd.st (by assumption) hs)) rfl rfl ?_
      refine S_val rfl rfl (Y_move rfl) ?_
      refine S_val rfl rfl (Y_extract rfl rfl) ?_
      refine S_val rfl rfl (Y_extract rfl rfl) ?_
      refine S_val rfl rfl (Y_extract rfl rfl) ?_
      refine S_val rfl rfl (Y_assign rfl) ?_
      refine S_val rfl rfl (Y_assign rfl) ?_
      refine S_val rfl rfl (Y_assign rfl) ?_
      refine S_nil ?_
      refine X_seq ?_
      refine T_seq ?_
      refine T_region ?_
      refine S_callV rfl rfl (bod rfl) (fun w hs => pfixed_any _) rfl rfl ?_
      refine S_val rfl rfl (Y_move rfl) ?_
      refine S_val rfl rfl (Y_move rfl) ?_
      refine S_val rfl rfl (Y_len rfl (und rfl) rfl) ?_
      refine S_val rfl rfl (Y_eql_t rfl rfl (by decide)) ?_
      refine S_val rfl rfl (Y_pick_t rfl rfl) ?_
      refine S_val rfl rfl (Y_move rfl) ?_
      refine S_val rfl rfl (Y_move rfl) ?_
      refine S_val rfl rfl (Y_eql_t rfl rfl (by decide)) ?_
      refine S_val rfl rfl (Y_pick_t rfl rfl) ?_
      refine S_val rfl rfl (Y_move rfl) ?_
      refine S_val rfl rfl (Y_move rfl) ?_
      refine S_val rfl rfl (Y_not rfl rfl) ?_
      refine S_val rfl rfl (Y_pick_t rfl rfl) ?_
      refine S_val rfl rfl (Y_assign rfl) ?_
      refine S_nil ?_
      refine X_seq ?_
      refine T_ret ?_
      ((first | refine X_fin_ret ?_ | refine X_fin ?_); exact ⟨[_], [], .cons (.tmp rfl) .nil, Emb.nil _, rfl, rfl⟩)
    · refine S_val rfl rfl (Y_move rfl) ?_
      refine S_val rfl rfl (Y_extract rfl rfl) ?_
      refine S_val rfl rfl (Y_extract rfl rfl) ?_
      refine S_val rfl rfl (Y_extract rfl rfl) ?_
      refine S_val rfl rfl (Y_assign rfl) ?_
      refine S_val rfl rfl (Y_assign rfl) ?_
      refine S_val rfl rfl (Y_assign rfl) ?_
      refine S_nil ?_
      refine X_seq ?_
      refine T_seq ?_
      refine T_seq ?_
      refine T_region ?_
      refine S_val rfl rfl (Y_move rfl) ?_
      refine S_val rfl rfl (Y_neq_f rfl rfl (by decide)) ?_
      refine S_val rfl rfl (Y_move rfl) ?_
      refine S_val rfl rfl (Y_move rfl) ?_
      refine S_val rfl rfl (Y_not rfl rfl) ?_
      refine S_val rfl rfl (Y_move rfl) ?_
      refine S_skip rfl rfl ?_
      refine S_skip rfl rfl ?_
      refine S_val rfl rfl (Y_pick_f rfl rfl) ?_
      refine S_val rfl rfl (Y_pick_f rfl rfl) ?_
      refine S_val rfl rfl (Y_move rfl) ?_
      refine S_val rfl rfl (Y_move rfl) ?_
      refine S_val rfl rfl (Y_not rfl rfl) ?_
      refine S_val rfl rfl (Y_move rfl) ?_
      refine S_skip rfl rfl ?_
      refine S_skip rfl rfl ?_
      refine S_skip rfl rfl ?_
      refine S_val rfl rfl (Y_pick_f rfl rfl) ?_
      refine S_val rfl rfl (Y_pick_f rfl rfl) ?_
      refine S_nil ?_
      refine X_seq ?_
      refine T_cond_false rfl ?_
      refine T_skip ?_
      refine X_seq ?_
      refine T_seq ?_
      refine T_seq ?_
      refine T_region ?_
      refine S_val rfl rfl (Y_move rfl) ?_
      refine S_val rfl rfl (Y_eql_f rfl rfl (by omega)) ?_
      refine S_nil ?_
      refine X_seq ?_
      refine T_cond_false rfl ?_
      refine T_skip ?_
      refine X_seq ?_
      refine T_seq ?_
      refine T_region ?_
      refine S_val rfl rfl (Y_move rfl) ?_
      refine S_val rfl rfl (Y_move rfl) ?_
      refine S_val rfl rfl (Y_move rfl) ?_
      refine S_val rfl rfl (Y_subU rfl rfl (nat_cast _) (nat_lit' _) rfl (by assumption) (by simp only [IntKind.bits]; assumption)) ?_
      refine S_callV rfl rfl (bod rfl) (fun w hs => lo _ (by first | exact hs.rowRd 0 rfl | exact hs.rowRd 1 rfl | exact hs.rowRd 2 rfl | exact hs.rowRd 3 rfl | exact hs.rowRd 4 rfl | exact hs.rowRd 5 rfl | exact hs.rowRd 6 rfl | exact hs.rowRd 7 rfl | exact hs.rowRd 8 rfl | exact hs.rowRd 9 rfl | exact hs.rowRd 10 rfl | exact hs.rowRd 11 rfl | exact hs.rowRd 12 rfl | exact hs.rowRd 13 rfl | exact Rd.st (by assumption) hs)) rfl rfl ?_
      refine S_val rfl rfl (Y_move rfl) ?_
      refine S_val rfl rfl (Y_extract rfl rfl) ?_
      refine S_val rfl rfl (Y_extract rfl rfl) ?_
      refine S_val rfl rfl (Y_extract rfl rfl) ?_
      refine S_val rfl rfl (Y_assign rfl) ?_
      refine S_val rfl rfl (Y_assign rfl) ?_
      refine S_val rfl rfl (Y_assign rfl) ?_
      refine S_nil ?_
      refine X_seq ?_
      refine T_seq ?_
      refine T_region ?_
      refine S_callV rfl rfl (bod rfl) (fun w hs => pfixed_any _) rfl rfl ?_
      refine S_val rfl rfl (Y_move rfl) ?_
      refine S_val rfl rfl (Y_move rfl) ?_
      refine S_val rfl rfl (Y_len rfl (und rfl) rfl) ?_
      refine S_val rfl rfl (Y_eql_t rfl rfl (by decide)) ?_
      refine S_val rfl rfl (Y_pick_t rfl rfl) ?_
      refine S_val rfl rfl (Y_move rfl) ?_
      refine S_val rfl rfl (Y_move rfl) ?_
      refine S_val rfl rfl (Y_eql_t rfl rfl (by decide)) ?_
      refine S_val rfl rfl (Y_pick_t rfl rfl) ?_
      refine S_val rfl rfl (Y_move rfl) ?_
      refine S_val rfl rfl (Y_move rfl) ?_
      refine S_val rfl rfl (Y_not rfl rfl) ?_
      refine S_val rfl rfl (Y_pick_t rfl rfl) ?_
      refine S_val rfl rfl (Y_assign rfl) ?_
      refine S_nil ?_
      refine X_seq ?_
      refine T_ret ?_
      ((first | refine X_fin_ret ?_ | refine X_fin ?_); exact ⟨[_], [], .cons (.tmp rfl) .nil, Emb.nil _, rfl, rfl⟩)
theorem precPaid_law (q : Int) (_hq : -9223372036854775808 ≤ q ∧ q ≤ 9223372036854775807) (n x : Nat) (hx : x < 256 ^ n) (_hn : n ≤ 9223372036854775807) (v : Value) (K : List U32) (hK : K.length = 64) (w : World) (hgb : Rd w (.slice (some ⟨0, 0, none⟩) 64 64) .u32 (bvl K)) (hr : Rd w v .u8 (bel n x)) : Fn Tryd.prog 3 #[.int .i64 q, v] w fun u N => u = .bool true ∧ N = [] := by
  by_cases h : 1000 < n
  · have hbl := bel_length n x
    refine Fn_of (args := [.int .i64 q, v]) Tryd.func3 rfl Tryd.ntmps3 Tryd.results3 (by simp) ?_
    refine T_seq ?_
    refine T_region ?_
    refine S_val rfl rfl (Y_assign rfl) ?_
    refine S_nil ?_
    refine X_seq ?_
    refine T_seq ?_
    refine T_seq ?_
    refine T_region ?_
    refine S_val rfl rfl (Y_move rfl) ?_
    refine S_val rfl rfl (Y_lenV rfl (und rfl) rfl (fun _ hs => Rd.st (by assumption) hs) (bel_length _ _)) ?_
    refine S_val rfl rfl (Y_gtr_t rfl rfl (by omega)) ?_
    refine S_val rfl rfl (Y_move rfl) ?_
    refine S_skip rfl rfl ?_
    refine S_skip rfl rfl ?_
    refine S_skip rfl rfl ?_
    refine S_skip rfl rfl ?_
    refine S_skip rfl rfl ?_
    refine S_skip rfl rfl ?_
    refine S_skip rfl rfl ?_
    refine S_val rfl rfl (Y_pick_t rfl rfl) ?_
    refine S_nil ?_
    refine X_seq ?_
    refine T_cond_true rfl ?_
    refine T_seq ?_
    refine T_region ?_
    refine S_callV rfl rfl (bod rfl) (fun w hs => pfixed_any _) rfl rfl ?_
    refine S_val rfl rfl (Y_assign rfl) ?_
    refine S_nil ?_
    refine X_seq ?_
    refine T_ret ?_
    refine X_seq_ret ?_
    ((first | refine X_fin_ret ?_ | refine X_fin ?_); exact ⟨[_], [], .cons (.tmp rfl) .nil, Emb.nil _, rfl, rfl⟩)
  · rcases op_cases q with rfl | rfl | rfl | h2
    · exact paid_2 n x hx (by omega) K hK v w hgb hr
    · exact paid_4 n x hx (by omega) v w hr
    · exact paid_5 n x hx (by omega) v w hr
    · exact paid_none q h2 n x hx (by omega) v w hr
end Go.Proofs.YtchoncjikdfbgaaDoor
