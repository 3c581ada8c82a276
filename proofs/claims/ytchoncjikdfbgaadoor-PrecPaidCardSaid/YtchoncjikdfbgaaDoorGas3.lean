import Derived.Test.YtchoncjikdfbgaaDoorGas2
import Derived.Test.YtchoncjikdfbgaaDoorWide1
import Derived.Test.YtchoncjikdfbgaaDoorWide3
/- Package modexp: what an input costs. -/
namespace Go.Proofs.YtchoncjikdfbgaaDoor
open Go.RowKit
set_option maxRecDepth 20000
set_option maxHeartbeats 4000000

/-- The first bytes of the exponent. -/
def headN (n x : Nat) : Nat := qN n x (96 + lenN n x 0 + min (lenN n x 1) 32) % 256 ^ min (lenN n x 1) 32
def cnt0 (h e : Nat) : Nat := bitLen h - 1 + (if 32 < e then 8 * (e - 32) else 0)
def cntN (h e : Nat) : Nat := if cnt0 h e = 0 then 1 else cnt0 h e
def wN (b m : Nat) : Nat := max b m / 8 + (if max b m % 8 = 0 then 0 else 1)
def gasN (n x : Nat) : Nat :=
  if lenN n x 0 = 0 ∧ lenN n x 2 = 0 then 200
  else if lenN n x 0 < 18446744073709551616 ∧ lenN n x 1 < 18446744073709551616 ∧ lenN n x 2 < 18446744073709551616 then
    min (max (wN (lenN n x 0) (lenN n x 2) * wN (lenN n x 0) (lenN n x 2) * cntN (headN n x) (lenN n x 1) / 3) 200) 18446744073709551615
  else 18446744073709551615
theorem headN_lt (n x : Nat) : headN n x < 256 ^ min (lenN n x 1) 32 := Nat.mod_lt _ (Nat.pow_pos (by omega))
theorem headN_lt2 (n x : Nat) : headN n x < 2 ^ 256 := Nat.lt_of_lt_of_le (headN_lt n x) (show _ ≤ 256 ^ 32 from Nat.pow_le_pow_right (by omega) (Nat.min_le_right _ _))
theorem headN_far {n x : Nat} (h : n ≤ 96 + lenN n x 0) : headN n x = 0 := qN_far (by omega)
theorem bitLen256 {x : Nat} (hx : x < 2 ^ 256) : bitLen x ≤ 256 := by
  unfold bitLen
  split
  · omega
  · rename_i h0
    have := (Nat.log2_lt h0).2 hx
    omega
theorem cnt0_lt {h e : Nat} (hh : h < 2 ^ 256) (he : e < 18446744073709551616) : cnt0 h e < 2 ^ 68 := by
  have := bitLen256 hh
  unfold cnt0
  split <;> omega
theorem cntN_lt {h e : Nat} (hh : h < 2 ^ 256) (he : e < 18446744073709551616) : cntN h e < 2 ^ 68 := by
  have := cnt0_lt hh he
  unfold cntN
  split <;> omega
theorem wN_lt {b m : Nat} (hb : b < 18446744073709551616) (hm : m < 18446744073709551616) : wN b m < 2 ^ 62 := by
  unfold wN
  split <;> omega
theorem ww_lt {w : Nat} (hw : w < 2 ^ 62) : w * w < 2 ^ 124 := by
  have := Nat.mul_lt_mul'' hw hw
  rwa [← Nat.pow_add] at this
theorem wwc_lt {w c : Nat} (hw : w < 2 ^ 62) (hc : c < 2 ^ 68) : w * w * c < 2 ^ 192 := by
  have := Nat.mul_lt_mul'' (ww_lt hw) hc
  rwa [← Nat.pow_add] at this
theorem dl4_ne {x : Nat} (hx : x < 2 ^ 256) (h : x ≠ 0) : ¬ (dl 18446744073709551616 4 x = fillI (List.replicate 4 0) []) := by
  intro e
  apply h
  have e2 : dl 18446744073709551616 4 x = dl 18446744073709551616 4 0 := by rw [e, dl_zero]; rfl
  exact dl_inj (b := 18446744073709551616) (n := 4) (by omega) (by exact hx) (by omega) e2
theorem dl4_eq {x : Nat} (h : x = 0) : dl 18446744073709551616 4 x = fillI (List.replicate 4 0) [] := by
  subst h
  rw [dl_zero]
  rfl
theorem mgas_any (n x : Nat) (hx : x < 256 ^ n) (hn : n ≤ 1000000) (v : Value) (w : World) (hr : Rd w v .u8 (bel n x)) :
    Fn Tryd.prog 14 #[v] w fun u N => u = .int .u64 ((gasN n x : Nat) : Int) ∧ N = [] := by
  have lg := fun w h => mlengths_any n x hx hn v w h
  have hh2 := headN_lt2 n x
  have hh1 := headN_lt n x
  have hf := headN_far (n := n) (x := x)
  have pt := fun at_ hat w h => mpart_any n x at_ (min (lenN n x 1) 32) hx hn hat (by omega) v w h
  have hhd : headN n x = qN n x (96 + lenN n x 0 + min (lenN n x 1) 32) % 256 ^ min (lenN n x 1) 32 := rfl
  have fr := fun u w h => wfrom_any (min (lenN n x 1) 32) (headN n x) hh1 (by omega) u w h
  simp only [Nat.mod_eq_of_lt hh2] at fr
  have hb0 := lenN_lt n x 0
  have he0 := lenN_lt n x 1
  have hm0 := lenN_lt n x 2
  have w3l := w3_length (lenN n x 0) (lenN n x 1) (lenN n x 2)
  have hg : gasN n x = if lenN n x 0 = 0 ∧ lenN n x 2 = 0 then 200 else if lenN n x 0 < 18446744073709551616 ∧ lenN n x 1 < 18446744073709551616 ∧ lenN n x 2 < 18446744073709551616 then
    min (max (wN (lenN n x 0) (lenN n x 2) * wN (lenN n x 0) (lenN n x 2) * cntN (headN n x) (lenN n x 1) / 3) 200) 18446744073709551615 else 18446744073709551615 := rfl
  generalize gasN n x = g at *
  generalize hhn : headN n x = hd at *
  clear hhn
  generalize lenN n x 0 = b at *
  generalize lenN n x 1 = e at *
  generalize lenN n x 2 = m at *
  refine Fn_of (args := [v]) Tryd.func14 rfl Tryd.ntmps14 Tryd.results14 (by simp) ?_
  refine T_seq ?_
  refine T_region ?_
  refine S_val rfl rfl (Y_assign rfl) ?_
  refine S_nil ?_
  refine X_seq ?_
  refine T_seq ?_
  refine T_region ?_
  refine S_val rfl rfl (Y_move rfl) ?_
  refine S_callV rfl rfl (bod rfl) (fun w hs => lg _ (by first | exact hs.rowRd 0 rfl | exact hs.rowRd 1 rfl | exact hs.rowRd 2 rfl | exact hs.rowRd 3 rfl | exact hs.rowRd 4 rfl | exact hs.rowRd 5 rfl | exact hs.rowRd 6 rfl | exact hs.rowRd 7 rfl | exact hs.rowRd 8 rfl | exact hs.rowRd 9 rfl | exact hs.rowRd 10 rfl | exact hs.rowRd 11 rfl | exact hs.rowRd 12 rfl | exact hs.rowRd 13 rfl | exact Rd.st (by assumption) hs)) rfl rfl ?_
  refine S_allocA (zer rfl) rfl rfl fun b3 => ?_
  refine S_storeAI 0 (siz rfl) rfl rfl rfl List.length_replicate w3l rfl ?_
  refine S_nil ?_
  refine X_seq ?_
  refine T_seq ?_
  refine T_cutK (α := Unit) (fun _ => ¬ (b = 0 ∧ m = 0)) (fun _ => [(0, v), (3, .pointer (some ⟨b3, 0, none⟩))]) (fun _ => [blk b3 (.cells (ints .u64 (w3 b e m)) 48 (0, 0))]) ?_ ?_
  · clear pt fr hf hhd hh1 hh2
    by_cases h1 : b = 0
    · have e1 := dl4_eq h1
      by_cases h2 : m = 0
      · have e2 := dl4_eq h2
        rw [if_pos ⟨h1, h2⟩] at hg
        clear hb0 he0 hm0
        subst hg
        refine T_seq ?_
        refine T_region ?_
        refine S_val rfl rfl (Y_ixg (und rfl) (siz rfl) rfl rfl (nat_lit' _) (Nat.le_of_ble_eq_true rfl)) ?_
        refine S_val rfl rfl (Y_loadPX 0 (und rfl) rfl rfl rfl (siz rfl) (Nat.le_of_ble_eq_true rfl) (w3_0 _ _ _)) ?_
        refine S_val rfl rfl (Y_build (und rfl) (siz rfl) (zer rfl) rfl rfl) ?_
        refine S_val rfl rfl (Y_eqlA_t (eqg rfl) (und rfl) (und rfl) (siz rfl) rfl rfl (dl_length _ _ _) (by assumption)) ?_
        refine S_val rfl rfl (Y_move rfl) ?_
        refine S_val rfl rfl (Y_ixg (und rfl) (siz rfl) rfl rfl (nat_lit' _) (Nat.le_of_ble_eq_true rfl)) ?_
        refine S_val rfl rfl (Y_loadPX 0 (und rfl) rfl rfl rfl (siz rfl) (Nat.le_of_ble_eq_true rfl) (w3_2 _ _ _)) ?_
        refine S_val rfl rfl (Y_build (und rfl) (siz rfl) (zer rfl) rfl rfl) ?_
        refine S_val rfl rfl (Y_eqlA_t (eqg rfl) (und rfl) (und rfl) (siz rfl) rfl rfl (dl_length _ _ _) (by assumption)) ?_
        refine S_val rfl rfl (Y_pick_t rfl rfl) ?_
        refine S_nil ?_
        refine X_seq ?_
        refine T_cond_true rfl ?_
        refine T_seq ?_
        refine T_region ?_
        refine S_val rfl rfl (Y_assign rfl) ?_
        refine S_nil ?_
        refine X_seq ?_
        refine T_ret ?_
        refine X_loop_ret ?_
        ((first | refine X_fin_ret ?_ | refine X_fin ?_); exact ⟨[_], [], .cons (.tmp rfl) .nil, Emb.nil _, rfl, rfl⟩)
      · have e2 := dl4_ne hm0 h2
        clear hb0 he0 hm0 hg
        refine T_seq ?_
        refine T_region ?_
        refine S_val rfl rfl (Y_ixg (und rfl) (siz rfl) rfl rfl (nat_lit' _) (Nat.le_of_ble_eq_true rfl)) ?_
        refine S_val rfl rfl (Y_loadPX 0 (und rfl) rfl rfl rfl (siz rfl) (Nat.le_of_ble_eq_true rfl) (w3_0 _ _ _)) ?_
        refine S_val rfl rfl (Y_build (und rfl) (siz rfl) (zer rfl) rfl rfl) ?_
        refine S_val rfl rfl (Y_eqlA_t (eqg rfl) (und rfl) (und rfl) (siz rfl) rfl rfl (dl_length _ _ _) (by assumption)) ?_
        refine S_val rfl rfl (Y_move rfl) ?_
        refine S_val rfl rfl (Y_ixg (und rfl) (siz rfl) rfl rfl (nat_lit' _) (Nat.le_of_ble_eq_true rfl)) ?_
        refine S_val rfl rfl (Y_loadPX 0 (und rfl) rfl rfl rfl (siz rfl) (Nat.le_of_ble_eq_true rfl) (w3_2 _ _ _)) ?_
        refine S_val rfl rfl (Y_build (und rfl) (siz rfl) (zer rfl) rfl rfl) ?_
        refine S_val rfl rfl (Y_eqlA_f (eqg rfl) (und rfl) (und rfl) (siz rfl) rfl rfl (dl_length _ _ _) rfl (by assumption)) ?_
        refine S_val rfl rfl (Y_pick_t rfl rfl) ?_
        refine S_nil ?_
        refine X_seq ?_
        refine T_cond_false rfl ?_
        refine T_skip ?_
        refine X_loop ?_
        exact ⟨(), fun h => h2 h.2, (by repeat (first | exact Env.sub_nil _ | (apply Env.sub_cons; rfl))), Emb.refl _⟩
    · have e1 := dl4_ne hb0 h1
      clear hb0 he0 hm0 hg
      refine T_seq ?_
      refine T_region ?_
      refine S_val rfl rfl (Y_ixg (und rfl) (siz rfl) rfl rfl (nat_lit' _) (Nat.le_of_ble_eq_true rfl)) ?_
      refine S_val rfl rfl (Y_loadPX 0 (und rfl) rfl rfl rfl (siz rfl) (Nat.le_of_ble_eq_true rfl) (w3_0 _ _ _)) ?_
      refine S_val rfl rfl (Y_build (und rfl) (siz rfl) (zer rfl) rfl rfl) ?_
      refine S_val rfl rfl (Y_eqlA_f (eqg rfl) (und rfl) (und rfl) (siz rfl) rfl rfl (dl_length _ _ _) rfl (by assumption)) ?_
      refine S_val rfl rfl (Y_move rfl) ?_
      refine S_skip rfl rfl ?_
      refine S_skip rfl rfl ?_
      refine S_skip rfl rfl ?_
      refine S_skip rfl rfl ?_
      refine S_val rfl rfl (Y_pick_f rfl rfl) ?_
      refine S_nil ?_
      refine X_seq ?_
      refine T_cond_false rfl ?_
      refine T_skip ?_
      refine X_loop ?_
      exact ⟨(), fun h => h1 h.1, (by repeat (first | exact Env.sub_nil _ | (apply Env.sub_cons; rfl))), Emb.refl _⟩
  · rintro ⟨⟩ hne
    rw [if_neg hne] at hg
    have sb := small_any b hb0
    have se := small_any e he0
    have sm := small_any m hm0
    clear hb0 he0 hm0 hne
    by_cases hb : b < 18446744073709551616
    · by_cases he : e < 18446744073709551616
      · by_cases hm : m < 18446744073709551616
        · rw [if_pos hb, decide_eq_true hb] at sb
          rw [if_pos he, decide_eq_true he] at se
          rw [if_pos hm, decide_eq_true hm] at sm
          rw [if_pos ⟨hb, he, hm⟩] at hg
          refine T_seq ?_
          refine T_region ?_
          refine S_val rfl rfl (Y_ixg (und rfl) (siz rfl) rfl rfl (nat_lit' _) (Nat.le_of_ble_eq_true rfl)) ?_
          refine S_val rfl rfl (Y_loadPX 0 (und rfl) rfl rfl rfl (siz rfl) (Nat.le_of_ble_eq_true rfl) (w3_0 _ _ _)) ?_
          refine S_callV rfl rfl (bod rfl) (fun w hs => sb _) rfl rfl ?_
          refine S_val rfl rfl (Y_move rfl) ?_
          refine S_val rfl rfl (Y_extract rfl rfl) ?_
          refine S_val rfl rfl (Y_extract rfl rfl) ?_
          refine S_val rfl rfl (Y_assign rfl) ?_
          refine S_val rfl rfl (Y_assign rfl) ?_
          refine S_nil ?_
          refine X_seq ?_
          refine T_seq ?_
          refine T_region ?_
          refine S_val rfl rfl (Y_ixg (und rfl) (siz rfl) rfl rfl (nat_lit' _) (Nat.le_of_ble_eq_true rfl)) ?_
          refine S_val rfl rfl (Y_loadPX 0 (und rfl) rfl rfl rfl (siz rfl) (Nat.le_of_ble_eq_true rfl) (w3_1 _ _ _)) ?_
          refine S_callV rfl rfl (bod rfl) (fun w hs => se _) rfl rfl ?_
          refine S_val rfl rfl (Y_move rfl) ?_
          refine S_val rfl rfl (Y_extract rfl rfl) ?_
          refine S_val rfl rfl (Y_extract rfl rfl) ?_
          refine S_val rfl rfl (Y_assign rfl) ?_
          refine S_val rfl rfl (Y_assign rfl) ?_
          refine S_nil ?_
          refine X_seq ?_
          refine T_seq ?_
          refine T_region ?_
          refine S_val rfl rfl (Y_ixg (und rfl) (siz rfl) rfl rfl (nat_lit' _) (Nat.le_of_ble_eq_true rfl)) ?_
          refine S_val rfl rfl (Y_loadPX 0 (und rfl) rfl rfl rfl (siz rfl) (Nat.le_of_ble_eq_true rfl) (w3_2 _ _ _)) ?_
          refine S_callV rfl rfl (bod rfl) (fun w hs => sm _) rfl rfl ?_
          refine S_val rfl rfl (Y_move rfl) ?_
          refine S_val rfl rfl (Y_extract rfl rfl) ?_
          refine S_val rfl rfl (Y_extract rfl rfl) ?_
          refine S_val rfl rfl (Y_assign rfl) ?_
          refine S_val rfl rfl (Y_assign rfl) ?_
          refine S_nil ?_
          refine X_seq ?_
          refine T_seq ?_
          refine T_seq ?_
          refine T_region ?_
          refine S_val rfl rfl (Y_move rfl) ?_
          refine S_val rfl rfl (Y_not rfl rfl) ?_
          refine S_val rfl rfl (Y_move rfl) ?_
          refine S_val rfl rfl (Y_move rfl) ?_
          refine S_val rfl rfl (Y_not rfl rfl) ?_
          refine S_val rfl rfl (Y_pick_f rfl rfl) ?_
          refine S_val rfl rfl (Y_move rfl) ?_
          refine S_val rfl rfl (Y_move rfl) ?_
          refine S_val rfl rfl (Y_not rfl rfl) ?_
          refine S_val rfl rfl (Y_pick_f rfl rfl) ?_
          refine S_nil ?_
          refine X_seq ?_
          refine T_cond_false rfl ?_
          refine T_skip ?_
          refine X_seq ?_
          refine T_seq ?_
          refine T_region ?_
          refine S_callV rfl rfl (bod rfl) (fun w hs => of_any 0 (by omega) _) rfl rfl ?_
          refine S_allocA (zer rfl) rfl rfl fun _ => ?_
          refine S_storeAI 1 (siz rfl) rfl rfl rfl rfl (dl_length _ _ _) rfl ?_
          refine S_nil ?_
          refine X_seq ?_
          refine T_seq ?_
          refine T_seq ?_
          refine T_region ?_
          refine S_val rfl rfl (Y_move rfl) ?_
          refine S_val rfl rfl (Y_add64 rfl rfl (nat_lit' _) (nat_cast _)) ?_
          refine S_val rfl rfl (Y_assign rfl) ?_
          refine S_nil ?_
          refine X_seq ?_
          refine T_seq ?_
          refine T_region ?_
          refine S_val rfl rfl (Y_move rfl) ?_
          refine S_val rfl rfl (Y_move rfl) ?_
          refine S_val rfl rfl (Y_geq rfl rfl) ?_
          refine S_nil ?_
          refine X_seq ?_
          rename_i b10
          refine T_cutK (α := Unit) (fun _ => True) (fun _ => [(4, .int .u64 b), (6, .int .u64 e), (8, .int .u64 m), (10, .pointer (some ⟨b10, 0, none⟩))]) (fun _ => [blk b10 (.cells (ints .u64 (dl 18446744073709551616 4 (hd))) 47 (0, 0))]) ?_ ?_
          · refine T_if rfl (fun h => ?_) (fun h => ?_)
            · have h96 : (96 + b) % 18446744073709551616 = 96 + b := by omega
              have pt2 := pt ((96 + b) % 18446744073709551616) (by omega)
              have e2 : bel (min e 32) (qN n x ((96 + b) % 18446744073709551616 + min e 32)) = bel (min e 32) hd := by rw [h96, hhd, bel_mod]
              rw [e2] at pt2
              clear h96 e2 sb se sm hg
              refine T_region ?_
              refine S_val rfl rfl (Y_move rfl) ?_
              refine S_val rfl rfl (Y_move rfl) ?_
              refine S_val rfl rfl (Y_move rfl) ?_
              refine S_val rfl rfl (Y_min rfl rfl (nat_cast _) (nat_lit' _)) ?_
              refine S_callR _ rfl rfl (bod rfl) (fun w hs => pt2 _ (by first | exact hs.rowRd 0 rfl | exact hs.rowRd 1 rfl | exact hs.rowRd 2 rfl | exact hs.rowRd 3 rfl | exact hs.rowRd 4 rfl | exact hs.rowRd 5 rfl | exact hs.rowRd 6 rfl | exact hs.rowRd 7 rfl | exact hs.rowRd 8 rfl | exact hs.rowRd 9 rfl | exact hs.rowRd 10 rfl | exact hs.rowRd 11 rfl | exact hs.rowRd 12 rfl | exact hs.rowRd 13 rfl | exact Rd.st (by assumption) hs)) rfl rfl fun _ => ?_
              skip
              refine S_callV rfl rfl (bod rfl) (fun w hs => fr _ _ (by first | exact hs.rowRd 0 rfl | exact hs.rowRd 1 rfl | exact hs.rowRd 2 rfl | exact hs.rowRd 3 rfl | exact hs.rowRd 4 rfl | exact hs.rowRd 5 rfl | exact hs.rowRd 6 rfl | exact hs.rowRd 7 rfl | exact hs.rowRd 8 rfl | exact hs.rowRd 9 rfl | exact hs.rowRd 10 rfl | exact hs.rowRd 11 rfl | exact hs.rowRd 12 rfl | exact hs.rowRd 13 rfl | exact Rd.st (by assumption) hs)) rfl rfl ?_
              refine S_storeAI 1 (siz rfl) rfl rfl rfl (dl_length _ _ _) (dl_length _ _ _) rfl ?_
              refine S_nil ?_
              refine X_loop ?_
              exact ⟨(), trivial, (by repeat (first | exact Env.sub_nil _ | (apply Env.sub_cons; rfl))), Emb.one 1 rfl⟩
            · have hz : hd = 0 := hf (by omega)
              subst hz
              refine T_skip ?_
              refine X_loop ?_
              exact ⟨(), trivial, (by repeat (first | exact Env.sub_nil _ | (apply Env.sub_cons; rfl))), Emb.one 1 rfl⟩
          · rintro ⟨⟩ _
            have hb256 := bitLen256 hh2
            have ln := len_any hd hh2
            have hc0 := cnt0_lt hh2 he
            have hcn := cntN_lt hh2 he
            have hcd : cntN hd e = if cnt0 hd e = 0 then 1 else cnt0 hd e := rfl
            have hc0d : cnt0 hd e = bitLen hd - 1 + (if 32 < e then 8 * (e - 32) else 0) := rfl
            have hw := wN_lt hb hm
            have hwd : wN b m = max b m / 8 + (if max b m % 8 = 0 then 0 else 1) := rfl
            have hmx : max ((bitLen hd : Int) - 1) 0 = ((bitLen hd - 1 : Nat) : Int) := by omega
            have ob := of_any (bitLen hd - 1) (by omega)
            clear sb se sm lg pt fr hf hh1 hhd w3l
            generalize cntN hd e = c at *
            generalize cnt0 hd e = c0 at *
            generalize wN b m = w0 at *
            generalize bitLen hd = bl at *
            refine T_seq ?_
            refine T_region ?_
            refine S_val rfl rfl (Y_loadAI 0 (und rfl) rfl rfl rfl (siz rfl) (dl_length _ _ _)) ?_
            refine S_callV rfl rfl (bod rfl) (fun w hs => ln _) rfl rfl ?_
            refine S_val rfl rfl (Y_sub rfl rfl (wi64 (by omega) (by omega))) ?_
            refine S_val rfl rfl (Y_maxI rfl rfl (by assumption)) ?_
            refine S_val rfl rfl (Y_conv (und rfl) (und rfl) rfl (wu64 (by omega) (by omega))) ?_
            refine S_callV rfl rfl (bod rfl) (fun w hs => ob _) rfl rfl ?_
            refine S_allocA (zer rfl) rfl rfl fun _ => ?_
            refine S_storeAI 1 (siz rfl) rfl rfl rfl rfl (dl_length _ _ _) rfl ?_
            refine S_nil ?_
            refine X_seq ?_
            refine T_seq ?_
            refine T_seq ?_
            refine T_region ?_
            refine S_val rfl rfl (Y_move rfl) ?_
            refine S_val rfl rfl (Y_gtr rfl rfl) ?_
            refine S_nil ?_
            refine X_seq ?_
            rename_i b12
            refine T_cutK (α := Unit) (fun _ => True) (fun _ => [(4, .int .u64 b), (8, .int .u64 m), (12, .pointer (some ⟨b12, 0, none⟩))]) (fun _ => [blk b12 (.cells (ints .u64 (dl 18446744073709551616 4 (c0))) 47 (0, 0))]) ?_ ?_
            · refine T_if rfl (fun h => ?_) (fun h => ?_)
              · have h32 : 32 < e := by omega
                rw [if_pos h32] at hc0d
                have ml := mul_any 8 (e - 32)
                rw [Nat.mod_eq_of_lt (show 8 * (e - 32) < 2 ^ 256 by omega)] at ml
                have ad := add_any (bl - 1) (8 * (e - 32)) (by omega) (by omega)
                rw [← hc0d, Nat.mod_eq_of_lt (show c0 < 2 ^ 256 by omega)] at ad
                have oe := of_any (e - 32) (by omega)
                clear hg hcn hcd hc0d hwd hw
                generalize bl - 1 = z at *
                clear hmx
                skip
                refine T_drawP (.succ (.succ (.succ (.succ (.succ (.succ (.succ .zero))))))) (by kernel_rfl) (by kernel_rfl) (by kernel_rfl) (by kernel_rfl) ?_
                refine D0_valM rfl rfl rfl (Y_loadAI 1 (und rfl) rfl rfl rfl (siz rfl) (dl_length _ _ _)) ?_
                refine D0_callV rfl rfl (bod rfl) (fun w hs => of_any 8 (by omega) _) rfl rfl ?_
                refine D0_val rfl rfl rfl (Y_move rfl) ?_
                refine D0_val rfl rfl rfl (Y_subU rfl rfl (nat_cast _) (nat_lit' _) rfl (by omega) (by simp only [IntKind.bits]; assumption)) ?_
                refine D0_callV rfl rfl (bod rfl) (fun w hs => oe _) rfl rfl ?_
                skip
                refine D0_callV rfl rfl (bod rfl) (fun w hs => ml _) rfl rfl ?_
                skip
                refine D0_callV rfl rfl (bod rfl) (fun w hs => ad _) rfl rfl ?_
                refine D0_nilS ?_
                refine S_storeAI 1 (siz rfl) rfl rfl rfl (dl_length _ _ _) (dl_length _ _ _) rfl ?_
                refine S_nil ?_
                refine X_loop ?_
                exact ⟨(), trivial, (by repeat (first | exact Env.sub_nil _ | (apply Env.sub_cons; rfl))), Emb.one 1 rfl⟩
              · rw [if_neg (by omega), Nat.add_zero] at hc0d
                rw [← hc0d]
                clear hg hcn hcd hwd hw
                refine T_skip ?_
                refine X_loop ?_
                exact ⟨(), trivial, (by repeat (first | exact Env.sub_nil _ | (apply Env.sub_cons; rfl))), Emb.one 1 rfl⟩
            · rintro ⟨⟩ _
              clear hc0d ln ob hmx hb256
              refine T_seq ?_
              refine T_seq ?_
              refine T_region ?_
              refine S_val rfl rfl (Y_loadAI 0 (und rfl) rfl rfl rfl (siz rfl) (dl_length _ _ _)) ?_
              refine S_val rfl rfl (Y_build (und rfl) (siz rfl) (zer rfl) rfl rfl) ?_
              refine S_val rfl rfl (Y_eqlA (eqg rfl) (und rfl) (und rfl) (siz rfl) rfl rfl (dl_length _ _ _) rfl) ?_
              refine S_nil ?_
              refine X_seq ?_
              refine T_cutK (α := Unit) (fun _ => True) (fun _ => [(4, .int .u64 b), (8, .int .u64 m), (12, .pointer (some ⟨b12, 0, none⟩))]) (fun _ => [blk b12 (.cells (ints .u64 (dl 18446744073709551616 4 (c))) 47 (0, 0))]) ?_ ?_
              · refine T_if rfl (fun h => ?_) (fun h => ?_)
                · have h0 : c0 = 0 := by
                    rcases Nat.eq_zero_or_pos c0 with h2 | h2
                    · exact h2
                    · exact absurd h (dl4_ne (by omega) (by omega))
                  rw [if_pos h0] at hcd
                  subst hcd
                  clear hg
                  refine T_region ?_
                  refine S_callV rfl rfl (bod rfl) (fun w hs => of_any 1 (by omega) _) rfl rfl ?_
                  refine S_storeAI 0 (siz rfl) rfl rfl rfl (dl_length _ _ _) (dl_length _ _ _) rfl ?_
                  refine S_nil ?_
                  refine X_loop ?_
                  exact ⟨(), trivial, (by repeat (first | exact Env.sub_nil _ | (apply Env.sub_cons; rfl))), Emb.one 0 rfl⟩
                · have h0 : c0 ≠ 0 := fun h2 => h (dl4_eq h2)
                  rw [if_neg h0] at hcd
                  rw [← hcd]
                  clear hg
                  refine T_skip ?_
                  refine X_loop ?_
                  exact ⟨(), trivial, (by repeat (first | exact Env.sub_nil _ | (apply Env.sub_cons; rfl))), Emb.one 0 rfl⟩
              · rintro ⟨⟩ _
                clear hcd hc0
                refine T_seq ?_
                refine T_region ?_
                refine S_val rfl rfl (Y_move rfl) ?_
                refine S_val rfl rfl (Y_move rfl) ?_
                refine S_val rfl rfl (Y_max rfl rfl (nat_cast _) (nat_cast _)) ?_
                refine S_val rfl rfl (Y_quoN rfl rfl (nat_cast _) (nat_lit' _) (Nat.succ_ne_zero _) (by first | with_reducible exact xi64 (by omega) | with_reducible exact x64 (by omega) | with_reducible exact x8 (by omega) | with_reducible exact x32 (by omega))) ?_
                refine S_val rfl rfl (Y_assign rfl) ?_
                refine S_nil ?_
                refine X_seq ?_
                refine T_seq ?_
                refine T_seq ?_
                refine T_region ?_
                refine S_val rfl rfl (Y_move rfl) ?_
                refine S_val rfl rfl (Y_move rfl) ?_
                refine S_val rfl rfl (Y_max rfl rfl (nat_cast _) (nat_cast _)) ?_
                refine S_val rfl rfl (Y_remN rfl rfl (nat_cast _) (nat_lit' _) (Nat.succ_ne_zero _)) ?_
                refine S_val rfl rfl (Y_gtr rfl rfl) ?_
                refine S_nil ?_
                refine X_seq ?_
                refine T_cutK (α := Unit) (fun _ => True) (fun _ => [(12, .pointer (some ⟨b12, 0, none⟩)), (13, .int .u64 w0)]) (fun _ => [blk b12 (.cells (ints .u64 (dl 18446744073709551616 4 (c))) 47 (0, 0))]) ?_ ?_
                · refine T_if rfl (fun h => ?_) (fun h => ?_)
                  · rw [if_neg (by omega)] at hwd
                    have hm2 : max b m / 8 + 1 < 18446744073709551616 := by omega
                    rw [hwd]
                    clear hg hw hwd
                    refine T_region ?_
                    refine S_val rfl rfl (Y_move rfl) ?_
                    refine S_val rfl rfl (Y_addU rfl rfl (nat_cast _) (nat_lit' _) rfl (by simp only [IntKind.bits]; assumption)) ?_
                    refine S_val rfl rfl (Y_assign rfl) ?_
                    refine S_nil ?_
                    refine X_loop ?_
                    exact ⟨(), trivial, (by repeat (first | exact Env.sub_nil _ | (apply Env.sub_cons; rfl))), Emb.one 0 rfl⟩
                  · rw [if_pos (by omega), Nat.add_zero] at hwd
                    rw [hwd]
                    clear hg hw hwd
                    refine T_skip ?_
                    refine X_loop ?_
                    exact ⟨(), trivial, (by repeat (first | exact Env.sub_nil _ | (apply Env.sub_cons; rfl))), Emb.one 0 rfl⟩
                · rintro ⟨⟩ _
                  have hww := ww_lt hw
                  have hwwc := wwc_lt hw hcn
                  have ow := of_any w0 (by omega)
                  have ml := mul_any w0 w0
                  rw [Nat.mod_eq_of_lt (show w0 * w0 < 2 ^ 256 by omega)] at ml
                  have pr := product_any (w0 * w0) c (by omega) (by omega)
                  rw [Nat.div_eq_of_lt (show w0 * w0 * c < 2 ^ 256 by omega)] at pr
                  have dv := wdiv_any (w0 * w0 * c) 3 (by omega) (by omega)
                  have sq := small_any (w0 * w0 * c / 3) (by omega)
                  have hz : dl 18446744073709551616 4 0 = fillI (List.replicate 4 0) [] := dl4_eq rfl
                  clear hb he hm hwd hw hcn hww hwwc
                  generalize w0 * w0 * c / 3 = q at *
                  generalize w0 * w0 * c = wwc at *
                  generalize w0 * w0 = ww at *
                  generalize remN wwc 3 = r at *
                  by_cases hq : q < 18446744073709551616
                  · rw [if_pos hq, decide_eq_true hq] at sq
                    have hg2 : ((max q 200 : Nat) : Int) = (g : Int) := by omega
                    clear hg
                    refine T_seq ?_
                    refine T_drawL (.succ (.succ (.succ (.succ (.succ (.succ (.succ (.succ (.succ (.succ .zero)))))))))) [.no, .no, .nw 10 (.cells (ints .u64 (List.replicate 4 0)) 47), .nw 11 (.cells (ints .u64 (List.replicate 4 0)) 47)] [blk b12 (.cells (ints .u64 (dl 18446744073709551616 4 (c))) 47 (0, 0))] rfl (by kernel_rfl) (Emb.idx [0] rfl rfl) rfl (by kernel_rfl) ?_
                    refine D0_val rfl rfl rfl (Y_move rfl) ?_
                    refine D0_callV rfl rfl (bod rfl) (fun w hs => ow _) rfl rfl ?_
                    refine D0_val rfl rfl rfl (Y_move rfl) ?_
                    refine D0_callV rfl rfl (bod rfl) (fun w hs => ow _) rfl rfl ?_
                    skip
                    refine D0_callV rfl rfl (bod rfl) (fun w hs => ml _) rfl rfl ?_
                    refine D0_valM rfl rfl rfl (Y_loadAI 0 (und rfl) rfl rfl rfl (siz rfl) (dl_length _ _ _)) ?_
                    refine D0_callV rfl rfl (bod rfl) (fun w hs => pr _) rfl rfl ?_
                    refine D0_val rfl rfl rfl (Y_move rfl) ?_
                    refine D0_val rfl rfl rfl (Y_extract rfl rfl) ?_
                    refine D0_val rfl rfl rfl (Y_extract rfl rfl) ?_
                    refine D0_nilL ?_
                    refine DL_allocA (zer rfl) rfl rfl rfl rfl rfl rfl ?_
                    refine DL_allocA (zer rfl) rfl rfl rfl rfl rfl rfl ?_
                    refine DL_storeAI rfl (fun _ => rfl) rfl (siz rfl) (fun _ => rfl) (fun _ => rfl) rfl (dl_length _ _ _) ?_
                    refine DL_storeAI rfl (fun _ => rfl) rfl (siz rfl) (fun _ => rfl) (fun _ => rfl) rfl (dl_length _ _ _) ?_
                    refine DL_nil fun _ => ?_
                    refine X_seq ?_
                    refine T_seq ?_
                    refine T_drawL (.succ (.succ (.succ (.succ (.succ (.succ .zero)))))) [.no, .no, .nw 6 (.cells (ints .u64 (List.replicate 4 0)) 47), .nw 7 (.cells (ints .u64 (List.replicate 4 0)) 47)] [blk _ (.cells (ints .u64 (dl 18446744073709551616 4 (wwc))) 47 (0, 0)), blk _ (.cells (ints .u64 (dl 18446744073709551616 4 (0))) 47 (0, 0))] rfl (by kernel_rfl) (Emb.idx [1, 2] rfl rfl) rfl (by kernel_rfl) ?_
                    refine D0_valM rfl rfl rfl (Y_loadAI 0 (und rfl) rfl rfl rfl (siz rfl) (dl_length _ _ _)) ?_
                    refine D0_callV rfl rfl (bod rfl) (fun w hs => of_any 3 (by omega) _) rfl rfl ?_
                    skip
                    refine D0_callV rfl rfl (bod rfl) (fun w hs => dv _) rfl rfl ?_
                    refine D0_val rfl rfl rfl (Y_move rfl) ?_
                    refine D0_val rfl rfl rfl (Y_extract rfl rfl) ?_
                    refine D0_val rfl rfl rfl (Y_extract rfl rfl) ?_
                    refine D0_nilL ?_
                    refine DL_allocA (zer rfl) rfl rfl rfl rfl rfl rfl ?_
                    refine DL_allocA (zer rfl) rfl rfl rfl rfl rfl rfl ?_
                    refine DL_storeAI rfl (fun _ => rfl) rfl (siz rfl) (fun _ => rfl) (fun _ => rfl) rfl (dl_length _ _ _) ?_
                    refine DL_storeAI rfl (fun _ => rfl) rfl (siz rfl) (fun _ => rfl) (fun _ => rfl) rfl (dl_length _ _ _) ?_
                    refine DL_nil fun _ => ?_
                    refine X_seq ?_
                    refine T_seq ?_
                    refine T_region ?_
                    refine S_val rfl rfl (Y_loadAI 2 (und rfl) rfl rfl rfl (siz rfl) (dl_length _ _ _)) ?_
                    refine S_callV rfl rfl (bod rfl) (fun w hs => sq _) rfl rfl ?_
                    refine S_val rfl rfl (Y_move rfl) ?_
                    refine S_val rfl rfl (Y_extract rfl rfl) ?_
                    refine S_val rfl rfl (Y_extract rfl rfl) ?_
                    refine S_val rfl rfl (Y_assign rfl) ?_
                    refine S_val rfl rfl (Y_assign rfl) ?_
                    refine S_nil ?_
                    refine X_seq ?_
                    refine T_seq ?_
                    refine T_seq ?_
                    refine T_region ?_
                    refine S_val rfl rfl (Y_move rfl) ?_
                    refine S_val rfl rfl (Y_not rfl rfl) ?_
                    refine S_val rfl rfl (Y_move rfl) ?_
                    refine S_val rfl rfl (Y_loadAI 1 (und rfl) rfl rfl rfl (siz rfl) (dl_length _ _ _)) ?_
                    refine S_val rfl rfl (Y_build (und rfl) (siz rfl) (zer rfl) rfl rfl) ?_
                    refine S_val rfl rfl (Y_neqA_f (eqg rfl) (und rfl) (und rfl) (siz rfl) rfl rfl (dl_length _ _ _) rfl) ?_
                    refine S_val rfl rfl (Y_pick_f rfl rfl) ?_
                    refine S_nil ?_
                    refine X_seq ?_
                    refine T_cond_false rfl ?_
                    refine T_skip ?_
                    refine X_seq ?_
                    refine T_seq ?_
                    refine T_region ?_
                    refine S_val rfl rfl (Y_move rfl) ?_
                    refine S_val rfl rfl (Y_max rfl rfl (nat_cast _) (nat_lit' _)) ?_
                    refine S_val rfl rfl (Y_assign rfl) ?_
                    refine S_nil ?_
                    refine X_seq ?_
                    refine T_ret ?_
                    ((first | refine X_fin_ret ?_ | refine X_fin ?_); exact ⟨[_], [], .cons (.tmp rfl) .nil, Emb.nil _, by show Value.int .u64 ((max q 200 : Nat) : Int) = _; rw [hg2], rfl⟩)
                  · rw [if_neg hq, decide_eq_false hq] at sq
                    have hg2 : (18446744073709551615 : Int) = (g : Int) := by omega
                    clear hg
                    refine T_seq ?_
                    refine T_drawL (.succ (.succ (.succ (.succ (.succ (.succ (.succ (.succ (.succ (.succ .zero)))))))))) [.no, .no, .nw 10 (.cells (ints .u64 (List.replicate 4 0)) 47), .nw 11 (.cells (ints .u64 (List.replicate 4 0)) 47)] [blk b12 (.cells (ints .u64 (dl 18446744073709551616 4 (c))) 47 (0, 0))] rfl (by kernel_rfl) (Emb.idx [0] rfl rfl) rfl (by kernel_rfl) ?_
                    refine D0_val rfl rfl rfl (Y_move rfl) ?_
                    refine D0_callV rfl rfl (bod rfl) (fun w hs => ow _) rfl rfl ?_
                    refine D0_val rfl rfl rfl (Y_move rfl) ?_
                    refine D0_callV rfl rfl (bod rfl) (fun w hs => ow _) rfl rfl ?_
                    skip
                    refine D0_callV rfl rfl (bod rfl) (fun w hs => ml _) rfl rfl ?_
                    refine D0_valM rfl rfl rfl (Y_loadAI 0 (und rfl) rfl rfl rfl (siz rfl) (dl_length _ _ _)) ?_
                    refine D0_callV rfl rfl (bod rfl) (fun w hs => pr _) rfl rfl ?_
                    refine D0_val rfl rfl rfl (Y_move rfl) ?_
                    refine D0_val rfl rfl rfl (Y_extract rfl rfl) ?_
                    refine D0_val rfl rfl rfl (Y_extract rfl rfl) ?_
                    refine D0_nilL ?_
                    refine DL_allocA (zer rfl) rfl rfl rfl rfl rfl rfl ?_
                    refine DL_allocA (zer rfl) rfl rfl rfl rfl rfl rfl ?_
                    refine DL_storeAI rfl (fun _ => rfl) rfl (siz rfl) (fun _ => rfl) (fun _ => rfl) rfl (dl_length _ _ _) ?_
                    refine DL_storeAI rfl (fun _ => rfl) rfl (siz rfl) (fun _ => rfl) (fun _ => rfl) rfl (dl_length _ _ _) ?_
                    refine DL_nil fun _ => ?_
                    refine X_seq ?_
                    refine T_seq ?_
                    refine T_drawL (.succ (.succ (.succ (.succ (.succ (.succ .zero)))))) [.no, .no, .nw 6 (.cells (ints .u64 (List.replicate 4 0)) 47), .nw 7 (.cells (ints .u64 (List.replicate 4 0)) 47)] [blk _ (.cells (ints .u64 (dl 18446744073709551616 4 (wwc))) 47 (0, 0)), blk _ (.cells (ints .u64 (dl 18446744073709551616 4 (0))) 47 (0, 0))] rfl (by kernel_rfl) (Emb.idx [1, 2] rfl rfl) rfl (by kernel_rfl) ?_
                    refine D0_valM rfl rfl rfl (Y_loadAI 0 (und rfl) rfl rfl rfl (siz rfl) (dl_length _ _ _)) ?_
                    refine D0_callV rfl rfl (bod rfl) (fun w hs => of_any 3 (by omega) _) rfl rfl ?_
                    skip
                    refine D0_callV rfl rfl (bod rfl) (fun w hs => dv _) rfl rfl ?_
                    refine D0_val rfl rfl rfl (Y_move rfl) ?_
                    refine D0_val rfl rfl rfl (Y_extract rfl rfl) ?_
                    refine D0_val rfl rfl rfl (Y_extract rfl rfl) ?_
                    refine D0_nilL ?_
                    refine DL_allocA (zer rfl) rfl rfl rfl rfl rfl rfl ?_
                    refine DL_allocA (zer rfl) rfl rfl rfl rfl rfl rfl ?_
                    refine DL_storeAI rfl (fun _ => rfl) rfl (siz rfl) (fun _ => rfl) (fun _ => rfl) rfl (dl_length _ _ _) ?_
                    refine DL_storeAI rfl (fun _ => rfl) rfl (siz rfl) (fun _ => rfl) (fun _ => rfl) rfl (dl_length _ _ _) ?_
                    refine DL_nil fun _ => ?_
                    refine X_seq ?_
                    refine T_seq ?_
                    refine T_region ?_
                    refine S_val rfl rfl (Y_loadAI 2 (und rfl) rfl rfl rfl (siz rfl) (dl_length _ _ _)) ?_
                    refine S_callV rfl rfl (bod rfl) (fun w hs => sq _) rfl rfl ?_
                    refine S_val rfl rfl (Y_move rfl) ?_
                    refine S_val rfl rfl (Y_extract rfl rfl) ?_
                    refine S_val rfl rfl (Y_extract rfl rfl) ?_
                    refine S_val rfl rfl (Y_assign rfl) ?_
                    refine S_val rfl rfl (Y_assign rfl) ?_
                    refine S_nil ?_
                    refine X_seq ?_
                    refine T_seq ?_
                    refine T_seq ?_
                    refine T_region ?_
                    refine S_val rfl rfl (Y_move rfl) ?_
                    refine S_val rfl rfl (Y_not rfl rfl) ?_
                    refine S_val rfl rfl (Y_move rfl) ?_
                    refine S_skip rfl rfl ?_
                    refine S_skip rfl rfl ?_
                    refine S_skip rfl rfl ?_
                    refine S_val rfl rfl (Y_pick_t rfl rfl) ?_
                    refine S_nil ?_
                    refine X_seq ?_
                    refine T_cond_true rfl ?_
                    refine T_seq ?_
                    refine T_region ?_
                    refine S_val rfl rfl (Y_assign rfl) ?_
                    refine S_nil ?_
                    refine X_seq ?_
                    refine T_ret ?_
                    refine X_seq_ret ?_
                    ((first | refine X_fin_ret ?_ | refine X_fin ?_); exact ⟨[_], [], .cons (.tmp rfl) .nil, Emb.nil _, by show Value.int .u64 18446744073709551615 = _; rw [hg2], rfl⟩)
        · rw [if_pos hb, decide_eq_true hb] at sb
          rw [if_pos he, decide_eq_true he] at se
          rw [if_neg hm, decide_eq_false hm] at sm
          rw [if_neg (fun h => hm h.2.2)] at hg
          subst hg
          clear pt fr hf hhd hh1 hh2 lg hm
          refine T_seq ?_
          refine T_region ?_
          refine S_val rfl rfl (Y_ixg (und rfl) (siz rfl) rfl rfl (nat_lit' _) (Nat.le_of_ble_eq_true rfl)) ?_
          refine S_val rfl rfl (Y_loadPX 0 (und rfl) rfl rfl rfl (siz rfl) (Nat.le_of_ble_eq_true rfl) (w3_0 _ _ _)) ?_
          refine S_callV rfl rfl (bod rfl) (fun w hs => sb _) rfl rfl ?_
          refine S_val rfl rfl (Y_move rfl) ?_
          refine S_val rfl rfl (Y_extract rfl rfl) ?_
          refine S_val rfl rfl (Y_extract rfl rfl) ?_
          refine S_val rfl rfl (Y_assign rfl) ?_
          refine S_val rfl rfl (Y_assign rfl) ?_
          refine S_nil ?_
          refine X_seq ?_
          refine T_seq ?_
          refine T_region ?_
          refine S_val rfl rfl (Y_ixg (und rfl) (siz rfl) rfl rfl (nat_lit' _) (Nat.le_of_ble_eq_true rfl)) ?_
          refine S_val rfl rfl (Y_loadPX 0 (und rfl) rfl rfl rfl (siz rfl) (Nat.le_of_ble_eq_true rfl) (w3_1 _ _ _)) ?_
          refine S_callV rfl rfl (bod rfl) (fun w hs => se _) rfl rfl ?_
          refine S_val rfl rfl (Y_move rfl) ?_
          refine S_val rfl rfl (Y_extract rfl rfl) ?_
          refine S_val rfl rfl (Y_extract rfl rfl) ?_
          refine S_val rfl rfl (Y_assign rfl) ?_
          refine S_val rfl rfl (Y_assign rfl) ?_
          refine S_nil ?_
          refine X_seq ?_
          refine T_seq ?_
          refine T_region ?_
          refine S_val rfl rfl (Y_ixg (und rfl) (siz rfl) rfl rfl (nat_lit' _) (Nat.le_of_ble_eq_true rfl)) ?_
          refine S_val rfl rfl (Y_loadPX 0 (und rfl) rfl rfl rfl (siz rfl) (Nat.le_of_ble_eq_true rfl) (w3_2 _ _ _)) ?_
          refine S_callV rfl rfl (bod rfl) (fun w hs => sm _) rfl rfl ?_
          refine S_val rfl rfl (Y_move rfl) ?_
          refine S_val rfl rfl (Y_extract rfl rfl) ?_
          refine S_val rfl rfl (Y_extract rfl rfl) ?_
          refine S_val rfl rfl (Y_assign rfl) ?_
          refine S_val rfl rfl (Y_assign rfl) ?_
          refine S_nil ?_
          refine X_seq ?_
          refine T_seq ?_
          refine T_seq ?_
          refine T_region ?_
          refine S_val rfl rfl (Y_move rfl) ?_
          refine S_val rfl rfl (Y_not rfl rfl) ?_
          refine S_val rfl rfl (Y_move rfl) ?_
          refine S_val rfl rfl (Y_move rfl) ?_
          refine S_val rfl rfl (Y_not rfl rfl) ?_
          refine S_val rfl rfl (Y_pick_f rfl rfl) ?_
          refine S_val rfl rfl (Y_move rfl) ?_
          refine S_val rfl rfl (Y_move rfl) ?_
          refine S_val rfl rfl (Y_not rfl rfl) ?_
          refine S_val rfl rfl (Y_pick_f rfl rfl) ?_
          refine S_nil ?_
          refine X_seq ?_
          refine T_cond_true rfl ?_
          refine T_seq ?_
          refine T_region ?_
          refine S_val rfl rfl (Y_assign rfl) ?_
          refine S_nil ?_
          refine X_seq ?_
          refine T_ret ?_
          refine X_seq_ret ?_
          ((first | refine X_fin_ret ?_ | refine X_fin ?_); exact ⟨[_], [], .cons (.tmp rfl) .nil, Emb.nil _, rfl, rfl⟩)
      · rw [if_pos hb, decide_eq_true hb] at sb
        rw [if_neg he, decide_eq_false he] at se
        rw [if_neg (fun h => he h.2.1)] at hg
        subst hg
        clear pt fr hf hhd hh1 hh2 lg he
        refine T_seq ?_
        refine T_region ?_
        refine S_val rfl rfl (Y_ixg (und rfl) (siz rfl) rfl rfl (nat_lit' _) (Nat.le_of_ble_eq_true rfl)) ?_
        refine S_val rfl rfl (Y_loadPX 0 (und rfl) rfl rfl rfl (siz rfl) (Nat.le_of_ble_eq_true rfl) (w3_0 _ _ _)) ?_
        refine S_callV rfl rfl (bod rfl) (fun w hs => sb _) rfl rfl ?_
        refine S_val rfl rfl (Y_move rfl) ?_
        refine S_val rfl rfl (Y_extract rfl rfl) ?_
        refine S_val rfl rfl (Y_extract rfl rfl) ?_
        refine S_val rfl rfl (Y_assign rfl) ?_
        refine S_val rfl rfl (Y_assign rfl) ?_
        refine S_nil ?_
        refine X_seq ?_
        refine T_seq ?_
        refine T_region ?_
        refine S_val rfl rfl (Y_ixg (und rfl) (siz rfl) rfl rfl (nat_lit' _) (Nat.le_of_ble_eq_true rfl)) ?_
        refine S_val rfl rfl (Y_loadPX 0 (und rfl) rfl rfl rfl (siz rfl) (Nat.le_of_ble_eq_true rfl) (w3_1 _ _ _)) ?_
        refine S_callV rfl rfl (bod rfl) (fun w hs => se _) rfl rfl ?_
        refine S_val rfl rfl (Y_move rfl) ?_
        refine S_val rfl rfl (Y_extract rfl rfl) ?_
        refine S_val rfl rfl (Y_extract rfl rfl) ?_
        refine S_val rfl rfl (Y_assign rfl) ?_
        refine S_val rfl rfl (Y_assign rfl) ?_
        refine S_nil ?_
        refine X_seq ?_
        refine T_seq ?_
        refine T_region ?_
        refine S_val rfl rfl (Y_ixg (und rfl) (siz rfl) rfl rfl (nat_lit' _) (Nat.le_of_ble_eq_true rfl)) ?_
        refine S_val rfl rfl (Y_loadPX 0 (und rfl) rfl rfl rfl (siz rfl) (Nat.le_of_ble_eq_true rfl) (w3_2 _ _ _)) ?_
        refine S_callV rfl rfl (bod rfl) (fun w hs => sm _) rfl rfl ?_
        refine S_val rfl rfl (Y_move rfl) ?_
        refine S_val rfl rfl (Y_extract rfl rfl) ?_
        refine S_val rfl rfl (Y_extract rfl rfl) ?_
        refine S_val rfl rfl (Y_assign rfl) ?_
        refine S_val rfl rfl (Y_assign rfl) ?_
        refine S_nil ?_
        refine X_seq ?_
        refine T_seq ?_
        refine T_seq ?_
        refine T_region ?_
        refine S_val rfl rfl (Y_move rfl) ?_
        refine S_val rfl rfl (Y_not rfl rfl) ?_
        refine S_val rfl rfl (Y_move rfl) ?_
        refine S_val rfl rfl (Y_move rfl) ?_
        refine S_val rfl rfl (Y_not rfl rfl) ?_
        refine S_val rfl rfl (Y_pick_f rfl rfl) ?_
        refine S_val rfl rfl (Y_move rfl) ?_
        refine S_skip rfl rfl ?_
        refine S_skip rfl rfl ?_
        refine S_val rfl rfl (Y_pick_t rfl rfl) ?_
        refine S_nil ?_
        refine X_seq ?_
        refine T_cond_true rfl ?_
        refine T_seq ?_
        refine T_region ?_
        refine S_val rfl rfl (Y_assign rfl) ?_
        refine S_nil ?_
        refine X_seq ?_
        refine T_ret ?_
        refine X_seq_ret ?_
        ((first | refine X_fin_ret ?_ | refine X_fin ?_); exact ⟨[_], [], .cons (.tmp rfl) .nil, Emb.nil _, rfl, rfl⟩)
    · rw [if_neg hb, decide_eq_false hb] at sb
      rw [if_neg (fun h => hb h.1)] at hg
      subst hg
      clear pt fr hf hhd hh1 hh2 lg hb
      refine T_seq ?_
      refine T_region ?_
      refine S_val rfl rfl (Y_ixg (und rfl) (siz rfl) rfl rfl (nat_lit' _) (Nat.le_of_ble_eq_true rfl)) ?_
      refine S_val rfl rfl (Y_loadPX 0 (und rfl) rfl rfl rfl (siz rfl) (Nat.le_of_ble_eq_true rfl) (w3_0 _ _ _)) ?_
      refine S_callV rfl rfl (bod rfl) (fun w hs => sb _) rfl rfl ?_
      refine S_val rfl rfl (Y_move rfl) ?_
      refine S_val rfl rfl (Y_extract rfl rfl) ?_
      refine S_val rfl rfl (Y_extract rfl rfl) ?_
      refine S_val rfl rfl (Y_assign rfl) ?_
      refine S_val rfl rfl (Y_assign rfl) ?_
      refine S_nil ?_
      refine X_seq ?_
      refine T_seq ?_
      refine T_region ?_
      refine S_val rfl rfl (Y_ixg (und rfl) (siz rfl) rfl rfl (nat_lit' _) (Nat.le_of_ble_eq_true rfl)) ?_
      refine S_val rfl rfl (Y_loadPX 0 (und rfl) rfl rfl rfl (siz rfl) (Nat.le_of_ble_eq_true rfl) (w3_1 _ _ _)) ?_
      refine S_callV rfl rfl (bod rfl) (fun w hs => se _) rfl rfl ?_
      refine S_val rfl rfl (Y_move rfl) ?_
      refine S_val rfl rfl (Y_extract rfl rfl) ?_
      refine S_val rfl rfl (Y_extract rfl rfl) ?_
      refine S_val rfl rfl (Y_assign rfl) ?_
      refine S_val rfl rfl (Y_assign rfl) ?_
      refine S_nil ?_
      refine X_seq ?_
      refine T_seq ?_
      refine T_region ?_
      refine S_val rfl rfl (Y_ixg (und rfl) (siz rfl) rfl rfl (nat_lit' _) (Nat.le_of_ble_eq_true rfl)) ?_
      refine S_val rfl rfl (Y_loadPX 0 (und rfl) rfl rfl rfl (siz rfl) (Nat.le_of_ble_eq_true rfl) (w3_2 _ _ _)) ?_
      refine S_callV rfl rfl (bod rfl) (fun w hs => sm _) rfl rfl ?_
      refine S_val rfl rfl (Y_move rfl) ?_
      refine S_val rfl rfl (Y_extract rfl rfl) ?_
      refine S_val rfl rfl (Y_extract rfl rfl) ?_
      refine S_val rfl rfl (Y_assign rfl) ?_
      refine S_val rfl rfl (Y_assign rfl) ?_
      refine S_nil ?_
      refine X_seq ?_
      refine T_seq ?_
      refine T_seq ?_
      refine T_region ?_
      refine S_val rfl rfl (Y_move rfl) ?_
      refine S_val rfl rfl (Y_not rfl rfl) ?_
      refine S_val rfl rfl (Y_move rfl) ?_
      refine S_skip rfl rfl ?_
      refine S_skip rfl rfl ?_
      refine S_val rfl rfl (Y_pick_t rfl rfl) ?_
      refine S_val rfl rfl (Y_move rfl) ?_
      refine S_skip rfl rfl ?_
      refine S_skip rfl rfl ?_
      refine S_val rfl rfl (Y_pick_t rfl rfl) ?_
      refine S_nil ?_
      refine X_seq ?_
      refine T_cond_true rfl ?_
      refine T_seq ?_
      refine T_region ?_
      refine S_val rfl rfl (Y_assign rfl) ?_
      refine S_nil ?_
      refine X_seq ?_
      refine T_ret ?_
      refine X_seq_ret ?_
      ((first | refine X_fin_ret ?_ | refine X_fin ?_); exact ⟨[_], [], .cons (.tmp rfl) .nil, Emb.nil _, rfl, rfl⟩)
end Go.Proofs.YtchoncjikdfbgaaDoor
