import Derived.Test.YtchoncjikdfbgaaDoorSha1
/- Package sha: block. -/
namespace Go.Proofs.YtchoncjikdfbgaaDoor
open Go.RowKit
set_option maxRecDepth 20000
set_option maxHeartbeats 40000000

abbrev S8 := U32 × U32 × U32 × U32 × U32 × U32 × U32 × U32
def l8 : S8 → List U32 := fun (a, b, c, d, e, f, g, h) => [a, b, c, d, e, f, g, h]
def t8 (l : List U32) : S8 := (w0 l 0, w0 l 1, w0 l 2, w0 l 3, w0 l 4, w0 l 5, w0 l 6, w0 l 7)
theorem l8_t8 {l : List U32} (h : l.length = 8) : l8 (t8 l) = l := by
  match l, h with
  | [a, b, c, d, e, f, g, h], _ => rfl
@[simp] theorem l8_length (s : S8) : (l8 s).length = 8 := rfl
def rndT (e f g h k x : U32) : U32 := h + (ror e 6 ^^^ ror e 11 ^^^ ror e 25) + ((e &&& f) ^^^ (~~~ e &&& g)) + k + x
def rndU (a b c : U32) : U32 := (ror a 2 ^^^ ror a 13 ^^^ ror a 22) + ((a &&& b) ^^^ (a &&& c) ^^^ (b &&& c))
def rnd : S8 → U32 → U32 → S8 := fun (a, b, c, d, e, f, g, h) k x => (rndT e f g h k x + rndU a b c, a, b, c, d + rndT e f g h k x, e, f, g)
/-- The eight numbers after so many rounds. -/
def rs (K X : List U32) (s : S8) : Nat → S8
  | 0 => s
  | i + 1 => rnd (rs K X s i) (w0 K i) (w0 X i)
/-- .. added. -/
def adds (l m : List U32) : Nat → List U32
  | 0 => l
  | i + 1 => (adds l m i).set i (w0 (adds l m i) i + w0 m i)
@[simp] theorem adds_length (l m : List U32) : ∀ i, (adds l m i).length = l.length
  | 0 => rfl
  | i + 1 => by unfold adds; rw [List.length_set, adds_length l m i]
theorem rs_zero (K X : List U32) (s : S8) : rs K X s 0 = s := by rw [rs]
theorem rs_succ (K X : List U32) (s : S8) (i : Nat) : rs K X s (i + 1) = rnd (rs K X s i) (w0 K i) (w0 X i) := by rw [rs]
theorem adds_zero (l m : List U32) : adds l m 0 = l := by rw [adds]
theorem adds_succ (l m : List U32) (i : Nat) : adds l m (i + 1) = (adds l m i).set i (w0 (adds l m i) i + w0 m i) := by rw [adds]
attribute [irreducible] rs adds
def blockF (K l : List U32) (bs : List U8) : List U32 := adds l (l8 (rs K (wAll bs) (t8 l) 64)) 8
theorem blockF_length {K l : List U32} {bs : List U8} (h : l.length = 8) : (blockF K l bs).length = 8 := by unfold blockF; rw [adds_length, h]
theorem block_any (K l : List U32) (bs : List U8) (hK : K.length = 64) (hl : l.length = 8) (hb : bs.length = 64) (v : Value) (w : World) (hg : Rd w (.slice (some ⟨0, 0, none⟩) 64 64) .u32 (bvl K)) (hr : Rd w v .u8 (byl bs)) : Fn Tryd.prog 40 #[.agg (ints .u32 (bvl l)), v] w fun u N => u = .agg (ints .u32 (bvl (blockF K l bs))) ∧ N = [] := by
  have nb := fun w hr => numbers_any bs hb v w hr
  have hWl : (wAll bs).length = 64 := wB_length bs 48
  unfold blockF
  generalize wAll bs = X at *
  have hX : (bvl X).length = 64 := by rw [bvl_length, hWl]
  have hL : (bvl l).length = 8 := by rw [bvl_length, hl]
  refine Fn_of (args := [.agg (ints .u32 (bvl l)), v]) Tryd.func40 rfl Tryd.ntmps40 Tryd.results40 (by simp) ?_
  refine T_seq ?_
  refine T_region ?_
  refine S_boxA rfl rfl rfl fun _ => ?_
  refine S_allocA (zer rfl) rfl rfl fun _ => ?_
  refine S_nil ?_
  refine X_seq ?_
  refine T_seq ?_
  refine T_region ?_
  refine S_val rfl rfl (Y_move rfl) ?_
  refine S_callV rfl rfl (bod rfl) (fun w hs => nb _ (by first | exact hs.rowRd 0 rfl | exact hs.rowRd 1 rfl | exact hs.rowRd 2 rfl | exact hs.rowRd 3 rfl | exact hs.rowRd 4 rfl | exact hs.rowRd 5 rfl | exact hs.rowRd 6 rfl | exact hs.rowRd 7 rfl | exact hs.rowRd 8 rfl | exact hs.rowRd 9 rfl | exact hs.rowRd 10 rfl | exact hs.rowRd 11 rfl | exact hs.rowRd 12 rfl | exact hs.rowRd 13 rfl | exact Rd.st (by assumption) hs)) rfl rfl ?_
  refine S_allocA (zer rfl) rfl rfl fun _ => ?_
  refine S_storeAI 2 (siz rfl) rfl rfl rfl rfl (by assumption) rfl ?_
  refine S_nil ?_
  refine X_seq ?_
  refine T_seq ?_
  refine T_region ?_
  refine S_val rfl rfl (Y_loadAI 0 (und rfl) rfl rfl rfl (siz rfl) (by assumption)) ?_
  refine S_allocA (zer rfl) rfl rfl fun _ => ?_
  refine S_storeAI 3 (siz rfl) rfl rfl rfl rfl (by assumption) rfl ?_
  refine S_nil ?_
  refine X_seq ?_
  refine T_seq ?_
  refine T_seq ?_
  refine T_region ?_
  refine S_val rfl rfl (Y_move rfl) ?_
  refine S_nil ?_
  refine X_seq ?_
  refine T_block ?_
  rename_i b1 b2 b3 b4
  refine T_loop (α := Nat) (fun i => i ≤ 64)
    (fun i => [(2, .pointer (some ⟨b1, 0, none⟩)), (4, .pointer (some ⟨b2, 0, none⟩)), (5, .pointer (some ⟨b3, 0, none⟩)), (6, .pointer (some ⟨b4, 0, none⟩)), (16, .int .i64 i)])
    (fun i => [blk b1 (.cells (ints .u32 (bvl l)) 67 (0, 0)), blk b2 (.cells (ints .u32 (List.replicate 8 0)) 67 (0, 0)), blk b3 (.cells (ints .u32 (bvl X)) 72 (0, 0)), blk b4 (.cells (ints .u32 (bvl (l8 (rs K X (t8 l) i)))) 67 (0, 0))])
    (fun i => 64 - i) 0 (by omega) (by repeat (first | exact Env.sub_nil _ | (apply Env.sub_cons; rfl))) [] (by rw [rs_zero, l8_t8 hl]; rfl) ?_
  intro i hi
  by_cases h : i < 64
  · have hk := bvl_w0 hK h
    have hx := bvl_w0 hWl h
    have hn : bvl (l8 (rs K X (t8 l) (i + 1))) = bvl (l8 (rnd (rs K X (t8 l) i) (w0 K i) (w0 X i))) := by rw [rs_succ]
    generalize w0 K i = k0 at *
    generalize w0 X i = x0 at *
    generalize rs K X (t8 l) i = s at *
    obtain ⟨va, vb, vc, vd, ve, vf, vg, vh⟩ := s
    refine T_seq ?_
    refine T_region ?_
    refine S_val rfl rfl (Y_lss_t rfl rfl (by omega)) ?_
    refine S_nil ?_
    refine X_seq ?_
    refine T_seq ?_
    refine T_cond_true rfl ?_
    refine T_skip ?_
    refine X_seq ?_
    refine T_seq ?_
    refine T_block ?_
    refine T_seq ?_
    refine T_region ?_
    refine S_val rfl rfl (Y_move rfl) ?_
    refine S_val rfl rfl (Y_assign rfl) ?_
    refine S_nil ?_
    refine X_seq ?_
    refine T_seq ?_
    refine T_draw (by kernel_rfl) (by kernel_rfl) rfl ?_
    refine D0_val rfl rfl rfl (Y_ixa (und rfl) (siz rfl) rfl rfl (nat_lit' _) (Nat.le_of_ble_eq_true rfl)) ?_
    refine D0_valM rfl rfl rfl (Y_loadI 3 (und rfl) rfl rfl rfl rfl) ?_
    refine D0_val rfl rfl rfl (Y_ixa (und rfl) (siz rfl) rfl rfl (nat_lit' _) (Nat.le_of_ble_eq_true rfl)) ?_
    refine D0_valM rfl rfl rfl (Y_loadI 3 (und rfl) rfl rfl rfl rfl) ?_
    refine D0_val rfl rfl rfl (Y_assign rfl) ?_
    refine D0_val rfl rfl rfl (Y_assign rfl) ?_
    refine D0_nil ?_
    refine X_seq ?_
    refine T_seq ?_
    refine T_draw (by kernel_rfl) (by kernel_rfl) rfl ?_
    refine D0_val rfl rfl rfl (Y_ixa (und rfl) (siz rfl) rfl rfl (nat_lit' _) (Nat.le_of_ble_eq_true rfl)) ?_
    refine D0_valM rfl rfl rfl (Y_loadI 3 (und rfl) rfl rfl rfl rfl) ?_
    refine D0_val rfl rfl rfl (Y_move rfl) ?_
    refine D0_callV rfl rfl (bod rfl) (fun w hs => sdown_any ve 6 (by omega) _) rfl rfl ?_
    refine D0_val rfl rfl rfl (Y_move rfl) ?_
    refine D0_callV rfl rfl (bod rfl) (fun w hs => sdown_any ve 11 (by omega) _) rfl rfl ?_
    refine D0_val rfl rfl rfl (Y_bxor rfl rfl) ?_
    refine D0_val rfl rfl rfl (Y_move rfl) ?_
    refine D0_callV rfl rfl (bod rfl) (fun w hs => sdown_any ve 25 (by omega) _) rfl rfl ?_
    refine D0_val rfl rfl rfl (Y_bxor rfl rfl) ?_
    refine D0_val rfl rfl rfl (Y_badd rfl rfl) ?_
    refine D0_val rfl rfl rfl (Y_move rfl) ?_
    refine D0_val rfl rfl rfl (Y_ixa (und rfl) (siz rfl) rfl rfl (nat_lit' _) (Nat.le_of_ble_eq_true rfl)) ?_
    refine D0_valM rfl rfl rfl (Y_loadI 3 (und rfl) rfl rfl rfl rfl) ?_
    refine D0_val rfl rfl rfl (Y_band rfl rfl) ?_
    refine D0_val rfl rfl rfl (Y_move rfl) ?_
    refine D0_val rfl rfl rfl (Y_bcpl rfl) ?_
    refine D0_val rfl rfl rfl (Y_ixa (und rfl) (siz rfl) rfl rfl (nat_lit' _) (Nat.le_of_ble_eq_true rfl)) ?_
    refine D0_valM rfl rfl rfl (Y_loadI 3 (und rfl) rfl rfl rfl rfl) ?_
    refine D0_val rfl rfl rfl (Y_band rfl rfl) ?_
    refine D0_val rfl rfl rfl (Y_bxor rfl rfl) ?_
    refine D0_val rfl rfl rfl (Y_badd rfl rfl) ?_
    refine D0_val rfl rfl rfl (Y_move rfl) ?_
    refine D0_val rfl rfl rfl (Y_ixa (und rfl) (siz rfl) rfl rfl (nat_cast _) (by assumption)) ?_
    refine D0_valM rfl rfl rfl (Y_loadG (und rfl) rfl rfl (fun _ hs => Rd.st (by assumption) hs) (by assumption)) ?_
    refine D0_val rfl rfl rfl (Y_badd rfl rfl) ?_
    refine D0_val rfl rfl rfl (Y_move rfl) ?_
    refine D0_val rfl rfl rfl (Y_ixa (und rfl) (siz rfl) rfl rfl (nat_cast _) (by assumption)) ?_
    refine D0_valM rfl rfl rfl (Y_loadI 2 (und rfl) rfl rfl rfl (by assumption)) ?_
    refine D0_val rfl rfl rfl (Y_badd rfl rfl) ?_
    refine D0_val rfl rfl rfl (Y_assign rfl) ?_
    refine D0_nil ?_
    refine X_seq ?_
    refine T_seq ?_
    refine T_draw (by kernel_rfl) (by kernel_rfl) rfl ?_
    refine D0_val rfl rfl rfl (Y_move rfl) ?_
    refine D0_callV rfl rfl (bod rfl) (fun w hs => sdown_any va 2 (by omega) _) rfl rfl ?_
    refine D0_val rfl rfl rfl (Y_move rfl) ?_
    refine D0_callV rfl rfl (bod rfl) (fun w hs => sdown_any va 13 (by omega) _) rfl rfl ?_
    refine D0_val rfl rfl rfl (Y_bxor rfl rfl) ?_
    refine D0_val rfl rfl rfl (Y_move rfl) ?_
    refine D0_callV rfl rfl (bod rfl) (fun w hs => sdown_any va 22 (by omega) _) rfl rfl ?_
    refine D0_val rfl rfl rfl (Y_bxor rfl rfl) ?_
    refine D0_val rfl rfl rfl (Y_move rfl) ?_
    refine D0_val rfl rfl rfl (Y_ixa (und rfl) (siz rfl) rfl rfl (nat_lit' _) (Nat.le_of_ble_eq_true rfl)) ?_
    refine D0_valM rfl rfl rfl (Y_loadI 3 (und rfl) rfl rfl rfl rfl) ?_
    refine D0_val rfl rfl rfl (Y_band rfl rfl) ?_
    refine D0_val rfl rfl rfl (Y_move rfl) ?_
    refine D0_val rfl rfl rfl (Y_ixa (und rfl) (siz rfl) rfl rfl (nat_lit' _) (Nat.le_of_ble_eq_true rfl)) ?_
    refine D0_valM rfl rfl rfl (Y_loadI 3 (und rfl) rfl rfl rfl rfl) ?_
    refine D0_val rfl rfl rfl (Y_band rfl rfl) ?_
    refine D0_val rfl rfl rfl (Y_bxor rfl rfl) ?_
    refine D0_val rfl rfl rfl (Y_ixa (und rfl) (siz rfl) rfl rfl (nat_lit' _) (Nat.le_of_ble_eq_true rfl)) ?_
    refine D0_valM rfl rfl rfl (Y_loadI 3 (und rfl) rfl rfl rfl rfl) ?_
    refine D0_val rfl rfl rfl (Y_ixa (und rfl) (siz rfl) rfl rfl (nat_lit' _) (Nat.le_of_ble_eq_true rfl)) ?_
    refine D0_valM rfl rfl rfl (Y_loadI 3 (und rfl) rfl rfl rfl rfl) ?_
    refine D0_val rfl rfl rfl (Y_band rfl rfl) ?_
    refine D0_val rfl rfl rfl (Y_bxor rfl rfl) ?_
    refine D0_val rfl rfl rfl (Y_badd rfl rfl) ?_
    refine D0_val rfl rfl rfl (Y_assign rfl) ?_
    refine D0_nil ?_
    refine X_seq ?_
    refine T_region ?_
    refine S_val rfl rfl (Y_move rfl) ?_
    refine S_val rfl rfl (Y_move rfl) ?_
    refine S_val rfl rfl (Y_badd rfl rfl) ?_
    refine S_val rfl rfl (Y_move rfl) ?_
    refine S_val rfl rfl (Y_ixa (und rfl) (siz rfl) rfl rfl (nat_lit' _) (Nat.le_of_ble_eq_true rfl)) ?_
    refine S_val rfl rfl (Y_loadI 3 (und rfl) rfl rfl rfl rfl) ?_
    refine S_val rfl rfl (Y_ixa (und rfl) (siz rfl) rfl rfl (nat_lit' _) (Nat.le_of_ble_eq_true rfl)) ?_
    refine S_val rfl rfl (Y_loadI 3 (und rfl) rfl rfl rfl rfl) ?_
    refine S_val rfl rfl (Y_ixa (und rfl) (siz rfl) rfl rfl (nat_lit' _) (Nat.le_of_ble_eq_true rfl)) ?_
    refine S_val rfl rfl (Y_loadI 3 (und rfl) rfl rfl rfl rfl) ?_
    refine S_val rfl rfl (Y_move rfl) ?_
    refine S_val rfl rfl (Y_badd rfl rfl) ?_
    refine S_val rfl rfl (Y_move rfl) ?_
    refine S_val rfl rfl (Y_ixa (und rfl) (siz rfl) rfl rfl (nat_lit' _) (Nat.le_of_ble_eq_true rfl)) ?_
    refine S_val rfl rfl (Y_loadI 3 (und rfl) rfl rfl rfl rfl) ?_
    refine S_val rfl rfl (Y_ixa (und rfl) (siz rfl) rfl rfl (nat_lit' _) (Nat.le_of_ble_eq_true rfl)) ?_
    refine S_val rfl rfl (Y_loadI 3 (und rfl) rfl rfl rfl rfl) ?_
    refine S_val rfl rfl (Y_build (und rfl) (siz rfl) (zer rfl) rfl rfl) ?_
    refine S_storeAI 3 (siz rfl) rfl rfl rfl rfl rfl rfl ?_
    refine S_nil ?_
    refine X_blk ?_
    refine X_seq ?_
    refine T_region ?_
    refine S_val rfl rfl (Y_addN rfl rfl (nat_cast _) (nat_lit' _) (by omega)) ?_
    refine S_val rfl rfl (Y_move rfl) ?_
    refine S_nil ?_
    refine X_loop ?_
    exact ⟨i + 1, by omega, by omega, (by repeat (first | exact Env.sub_nil _ | (apply Env.sub_cons; rfl))), [], by dsimp only; rw [hn]; rfl⟩
  · obtain rfl : i = 64 := by omega
    have hm : (l8 (rs K X (t8 l) 64)).length = 8 := l8_length _
    generalize l8 (rs K X (t8 l) 64) = m at *
    refine T_seq ?_
    refine T_region ?_
    refine S_val rfl rfl (Y_lss_f rfl rfl (by decide)) ?_
    refine S_nil ?_
    refine X_seq ?_
    refine T_seq ?_
    refine T_cond_false rfl ?_
    refine T_exit ?_
    refine X_seq_exit ?_
    refine X_loop_exit ?_
    refine X_blk_hit rfl ?_
    refine X_seq ?_
    refine T_seq ?_
    refine T_seq ?_
    refine T_region ?_
    refine S_val rfl rfl (Y_move rfl) ?_
    refine S_nil ?_
    refine X_seq ?_
    refine T_block ?_
    refine T_loop (α := Nat) (fun i => i ≤ 8)
      (fun i => [(2, .pointer (some ⟨b1, 0, none⟩)), (4, .pointer (some ⟨b2, 0, none⟩)), (6, .pointer (some ⟨b4, 0, none⟩)), (96, .int .i64 i)])
      (fun i => [blk b1 (.cells (ints .u32 (bvl (adds l m i))) 67 (0, 0)), blk b2 (.cells (ints .u32 (List.replicate 8 0)) 67 (0, 0)), blk b3 (.cells (ints .u32 (bvl X)) 72 (0, 0)), blk b4 (.cells (ints .u32 (bvl m)) 67 (0, 0))])
      (fun i => 8 - i) 0 (by omega) (by repeat (first | exact Env.sub_nil _ | (apply Env.sub_cons; rfl))) [] (by rw [adds_zero]; rfl) ?_
    intro i hi
    have hal : (adds l m i).length = 8 := by rw [adds_length, hl]
    by_cases h : i < 8
    · have ha := bvl_w0 hal h
      have hmm := bvl_w0 hm h
      have hn : (bvl (adds l m i)).set i (((w0 (adds l m i) i + w0 m i).toNat : Nat) : Int) = bvl (adds l m (i + 1)) := by
        rw [bvl_set, adds_succ]
      generalize w0 (adds l m i) i = y0 at *
      generalize w0 m i = z0 at *
      generalize adds l m i = n at *
      refine T_seq ?_
      refine T_region ?_
      refine S_val rfl rfl (Y_lss_t rfl rfl (by omega)) ?_
      refine S_nil ?_
      refine X_seq ?_
      refine T_seq ?_
      refine T_cond_true rfl ?_
      refine T_skip ?_
      refine X_seq ?_
      refine T_seq ?_
      refine T_block ?_
      refine T_seq ?_
      refine T_region ?_
      refine S_val rfl rfl (Y_move rfl) ?_
      refine S_val rfl rfl (Y_assign rfl) ?_
      refine S_nil ?_
      refine X_seq ?_
      refine T_draw (by kernel_rfl) (by kernel_rfl) rfl ?_
      refine D0_val rfl rfl rfl (Y_move rfl) ?_
      refine D0_val rfl rfl rfl (Y_ixa (und rfl) (siz rfl) rfl rfl (nat_cast _) (by assumption)) ?_
      refine D0_valM rfl rfl rfl (Y_loadI 0 (und rfl) rfl rfl rfl (by assumption)) ?_
      refine D0_val rfl rfl rfl (Y_move rfl) ?_
      refine D0_val rfl rfl rfl (Y_ixa (und rfl) (siz rfl) rfl rfl (nat_cast _) (by assumption)) ?_
      refine D0_valM rfl rfl rfl (Y_loadI 3 (und rfl) rfl rfl rfl (by assumption)) ?_
      refine D0_val rfl rfl rfl (Y_badd rfl rfl) ?_
      refine D0_val rfl rfl rfl (Y_ixa (und rfl) (siz rfl) rfl rfl (nat_cast _) (by assumption)) ?_
      refine D0_storeI 0 (by kernel_rfl) (siz rfl) rfl rfl rfl (by simp; omega) rfl rfl ?_
      refine D0_nil ?_
      refine X_blk ?_
      refine X_seq ?_
      refine T_region ?_
      refine S_val rfl rfl (Y_addN rfl rfl (nat_cast _) (nat_lit' _) (by omega)) ?_
      refine S_val rfl rfl (Y_move rfl) ?_
      refine S_nil ?_
      refine X_loop ?_
      exact ⟨i + 1, by omega, by omega, (by repeat (first | exact Env.sub_nil _ | (apply Env.sub_cons; rfl))), [], by rw [← hn]; rfl⟩
    · obtain rfl : i = 8 := by omega
      have h8 : (bvl (adds l m 8)).length = 8 := by rw [bvl_length, hal]
      have h0 : (List.replicate 8 (0 : Int)).length = 8 := List.length_replicate
      generalize adds l m 8 = n at *
      refine T_seq ?_
      refine T_region ?_
      refine S_val rfl rfl (Y_lss_f rfl rfl (by decide)) ?_
      refine S_nil ?_
      refine X_seq ?_
      refine T_seq ?_
      refine T_cond_false rfl ?_
      refine T_exit ?_
      refine X_seq_exit ?_
      refine X_loop_exit ?_
      refine X_blk_hit rfl ?_
      refine X_seq ?_
      refine T_seq ?_
      refine T_region ?_
      refine S_val rfl rfl (Y_loadAI 0 (und rfl) rfl rfl rfl (siz rfl) (by assumption)) ?_
      refine S_storeAI 1 (siz rfl) rfl rfl rfl rfl (by assumption) rfl ?_
      refine S_nil ?_
      refine X_seq ?_
      refine T_ret ?_
      ((first | refine X_fin_ret ?_ | refine X_fin ?_); exact ⟨[_], [], .cons (.agg 1 rfl (und rfl) rfl rfl (by rw [ints_size, h8]; exact siz rfl)) .nil, Emb.nil _, rfl, rfl⟩)
end Go.Proofs.YtchoncjikdfbgaaDoor
