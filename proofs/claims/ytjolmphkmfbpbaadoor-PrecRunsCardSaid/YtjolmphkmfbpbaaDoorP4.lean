import Derived.Test.YtjolmphkmfbpbaaDoorP0
import Derived.Test.YtjolmphkmfbpbaaDoorP1
import Derived.Test.YtjolmphkmfbpbaaDoorP2
import Derived.Test.YtjolmphkmfbpbaaDoorP3
/- The reference of layer 6: what its Sum reckons, and that it is what sha.Sum does. -/
namespace Go.Proofs.YtjolmphkmfbpbaaDoor
open Go.RowKit
set_option maxRecDepth 20000
set_option maxHeartbeats 40000000
def c32 (B : List U8) (i : Nat) : U32 := (B[i]?.getD 0).setWidth 32
/-- The numbers of a block, after so many. -/
def wR (B : List U8) : Nat → List U32
  | 0 => List.replicate 64 0
  | i + 1 => (wR B i).set i (if i < 16 then (c32 B (4 * i) <<< 24) + (c32 B (4 * i + 1) <<< 16) + (c32 B (4 * i + 2) <<< 8) + c32 B (4 * i + 3) else w0 (wR B i) (i - 16) + w0 (wR B i) (i - 7) + sg0 (w0 (wR B i) (i - 15)) + sg1 (w0 (wR B i) (i - 2)))
theorem wR_zero (B : List U8) : wR B 0 = List.replicate 64 0 := by rw [wR]
theorem wR_succ (B : List U8) (i : Nat) : wR B (i + 1) = (wR B i).set i (if i < 16 then (c32 B (4 * i) <<< 24) + (c32 B (4 * i + 1) <<< 16) + (c32 B (4 * i + 2) <<< 8) + c32 B (4 * i + 3) else w0 (wR B i) (i - 16) + w0 (wR B i) (i - 7) + sg0 (w0 (wR B i) (i - 15)) + sg1 (w0 (wR B i) (i - 2))) := by rw [wR]
theorem wR_lo (B : List U8) (i : Nat) (h : i < 16) : wR B (i + 1) = (wR B i).set i ((c32 B (4 * i) <<< 24) + (c32 B (4 * i + 1) <<< 16) + (c32 B (4 * i + 2) <<< 8) + c32 B (4 * i + 3)) := by rw [wR_succ, if_pos h]
theorem wR_hi (B : List U8) (i : Nat) (h : ¬ i < 16) : wR B (i + 1) = (wR B i).set i (w0 (wR B i) (i - 16) + w0 (wR B i) (i - 7) + sg0 (w0 (wR B i) (i - 15)) + sg1 (w0 (wR B i) (i - 2))) := by rw [wR_succ, if_neg h]
@[simp] theorem wR_length (B : List U8) : ∀ i, (wR B i).length = 64
  | 0 => by rw [wR_zero, List.length_replicate]
  | i + 1 => by rw [wR_succ, List.length_set, wR_length B i]
attribute [irreducible] wR
theorem w0_set_self {l : List U32} {i : Nat} (h : i < l.length) (a : U32) : w0 (l.set i a) i = a := by unfold w0; rw [List.getElem?_set, if_pos rfl, if_pos h]; rfl
theorem w0_set_ne {l : List U32} {i j : Nat} (h : i ≠ j) (a : U32) : w0 (l.set i a) j = w0 l j := by unfold w0; rw [List.getElem?_set, if_neg h]
theorem sh_or (x c : U32) (hx : x.toNat < 2 ^ 24) (hc : c.toNat < 256) : ((x <<< 8) ||| c).toNat = x.toNat * 256 + c.toNat := by
  rw [BitVec.toNat_or, BitVec.toNat_shiftLeft, Nat.shiftLeft_eq, Nat.mod_eq_of_lt (by omega), ← Nat.shiftLeft_eq, ← Nat.shiftLeft_add_eq_or_of_lt (show c.toNat < 2 ^ 8 by omega), Nat.shiftLeft_eq]
theorem c32_lt (B : List U8) (i : Nat) : (c32 B i).toNat < 256 := by
  unfold c32
  rw [BitVec.toNat_setWidth]
  have := (B[i]?.getD 0).isLt
  omega
theorem word_eq (a b c d : U32) (ha : a.toNat < 256) (hb : b.toNat < 256) (hc : c.toNat < 256) (hd : d.toNat < 256) :
    (((((((0 : U32) <<< 8 ||| a) <<< 8) ||| b) <<< 8) ||| c) <<< 8) ||| d = (a <<< 24) + (b <<< 16) + (c <<< 8) + d := by
  have e0 : (0 : U32) <<< 8 ||| a = a := by simp
  rw [e0]
  apply BitVec.eq_of_toNat_eq
  have h1 := sh_or a b (by omega) hb
  have h2 := sh_or ((a <<< 8) ||| b) c (by omega) hc
  have h3 := sh_or ((((a <<< 8) ||| b) <<< 8) ||| c) d (by omega) hd
  rw [h3, h2, h1, BitVec.toNat_add, BitVec.toNat_add, BitVec.toNat_add, BitVec.toNat_shiftLeft, BitVec.toNat_shiftLeft, BitVec.toNat_shiftLeft, Nat.shiftLeft_eq, Nat.shiftLeft_eq, Nat.shiftLeft_eq]
  omega
theorem wR_w0 (B : List U8) : ∀ i, i ≤ 16 → ∀ j, i ≤ j → w0 (wR B i) j = 0
  | 0, _, j, _ => by
    rw [wR_zero]
    unfold w0
    rw [List.getElem?_replicate]
    split <;> rfl
  | i + 1, h, j, hj => by
    rw [wR_lo B i (by omega), w0_set_ne (by omega)]
    exact wR_w0 B i (by omega) j (by omega)
theorem wA_wR (B : List U8) : ∀ i, i ≤ 16 → wA B (4 * i) = wR B i
  | 0, _ => by rw [Nat.mul_zero, wA_zero, wR_zero]
  | i + 1, h => by
    have ih := wA_wR B i (by omega)
    have hz := wR_w0 B i (by omega) i (Nat.le_refl _)
    have hl : i < (wR B i).length := by rw [wR_length]; omega
    have e1 : wA B (4 * i + 1) = (wR B i).set i ((0 : U32) <<< 8 ||| c32 B (4 * i)) := by rw [wA_succ, ih, show 4 * i / 4 = i by omega, hz]; rfl
    have e2 : wA B (4 * i + 2) = (wR B i).set i (((0 : U32) <<< 8 ||| c32 B (4 * i)) <<< 8 ||| c32 B (4 * i + 1)) := by rw [wA_succ, e1, show (4 * i + 1) / 4 = i by omega, w0_set_self hl, List.set_set]; rfl
    have e3 : wA B (4 * i + 3) = (wR B i).set i ((((0 : U32) <<< 8 ||| c32 B (4 * i)) <<< 8 ||| c32 B (4 * i + 1)) <<< 8 ||| c32 B (4 * i + 2)) := by rw [wA_succ, e2, show (4 * i + 2) / 4 = i by omega, w0_set_self hl, List.set_set]; rfl
    have e4 : wA B (4 * i + 4) = (wR B i).set i (((((0 : U32) <<< 8 ||| c32 B (4 * i)) <<< 8 ||| c32 B (4 * i + 1)) <<< 8 ||| c32 B (4 * i + 2)) <<< 8 ||| c32 B (4 * i + 3)) := by rw [wA_succ, e3, show (4 * i + 3) / 4 = i by omega, w0_set_self hl, List.set_set]; rfl
    rw [show 4 * (i + 1) = 4 * i + 4 by omega, e4, wR_lo B i (by omega), word_eq _ _ _ _ (c32_lt _ _) (c32_lt _ _) (c32_lt _ _) (c32_lt _ _)]
theorem wB_wR (B : List U8) : ∀ k, wB B k = wR B (16 + k)
  | 0 => by rw [wB_zero, show 64 = 4 * 16 by omega, wA_wR B 16 (by omega)]
  | k + 1 => by
    rw [wB_succ, wB_wR B k, show 16 + (k + 1) = (16 + k) + 1 by omega, wR_hi B (16 + k) (by omega), show 16 + k - 16 = k by omega, show 16 + k - 7 = k + 9 by omega, show 16 + k - 15 = k + 1 by omega, show 16 + k - 2 = k + 14 by omega, show k + 16 = 16 + k by omega]
theorem wR_all (B : List U8) : wR B 64 = wAll B := (wB_wR B 48).symm
/-- The eight numbers moved on, after so many. -/
def shR (l : List U32) : Nat → List U32
  | 0 => l
  | k + 1 => (shR l k).set (7 - k) (w0 (shR l k) (6 - k))
theorem shR_zero (l : List U32) : shR l 0 = l := by rw [shR]
theorem shR_succ (l : List U32) (k : Nat) : shR l (k + 1) = (shR l k).set (7 - k) (w0 (shR l k) (6 - k)) := by rw [shR]
theorem shR_length (l : List U32) : ∀ k, (shR l k).length = l.length
  | 0 => by rw [shR_zero]
  | k + 1 => by rw [shR_succ, List.length_set, shR_length l k]
theorem shR_7 (a b c d e f g h : U32) : shR [a, b, c, d, e, f, g, h] 7 = [a, a, b, c, d, e, f, g] := by
  simp [shR, w0]
attribute [irreducible] shR
/-- How many noughts. -/
def padK (n : Nat) : Nat := (120 - (n + 1) % 64) % 64
/-- All the bytes, with so many of the length. -/
def allR (bs : List U8) (j : Nat) : List U8 := bs ++ [128] ++ List.replicate (padK bs.length) 0 ++ (List.range j).map fun i => BitVec.ofNat 8 (bs.length * 8 / 2 ^ (8 * (7 - i)))
theorem allR_succ (bs : List U8) (j : Nat) : allR bs (j + 1) = allR bs j ++ [BitVec.ofNat 8 (bs.length * 8 / 2 ^ (8 * (7 - j)))] := by
  unfold allR
  rw [List.range_succ, List.map_append, ← List.append_assoc]
  rfl
theorem allR_length (bs : List U8) (j : Nat) : (allR bs j).length = bs.length + 1 + padK bs.length + j := by
  unfold allR
  simp
  omega
def nbR (n : Nat) : Nat := (n + 1 + padK n + 8) / 64
theorem nbR_eq (n : Nat) : 64 * nbR n = n + 1 + padK n + 8 := by unfold nbR padK; omega
/-- What the reference's Sum hands back. -/
def sumR (K h : List U32) (bs : List U8) : List U8 := outs (sums K h (allR bs 8) (nbR bs.length)) 32
theorem sums_pre (K h : List U32) (A B : List U8) : ∀ i, (∀ p, p < 64 * i → A[p]? = B[p]?) → sums K h A i = sums K h B i
  | 0, _ => by rw [sums_zero, sums_zero]
  | i + 1, he => by
    rw [sums_succ, sums_succ, sums_pre K h A B i fun p hp => he p (by omega)]
    congr 1
    refine List.ext_getElem? fun p => ?_
    rw [List.getElem?_take, List.getElem?_take]
    split
    · rw [List.getElem?_drop, List.getElem?_drop, he _ (by omega)]
    · rfl
theorem sums_add (K h : List U32) (A : List U8) (m : Nat) : ∀ i, sums K h A (m + i) = sums K (sums K h A m) (A.drop (64 * m)) i
  | 0 => by rw [sums_zero, Nat.add_zero]
  | i + 1 => by
    rw [← Nat.add_assoc, sums_succ, sums_succ, sums_add K h A m i, List.drop_drop, show 64 * m + 64 * i = 64 * (m + i) by omega]
theorem lastB_get (l : List U8) (e n : Nat) : ∀ i, i ≤ 8 → 8 ≤ e → e ≤ l.length → ∀ p, (lastB l e n i)[p]? = if e - i ≤ p ∧ p < e then some (BitVec.ofNat 8 (n / 2 ^ (8 * (e - 1 - p)))) else l[p]?
  | 0, _, _, _, p => by rw [lastB_zero, if_neg (by omega)]
  | i + 1, h, h2, h3, p => by
    have hl := lastB_length l e n i
    rw [lastB_succ, List.getElem?_set, lastB_get l e n i (by omega) h2 h3 p]
    by_cases hp : e - 1 - i = p
    · rw [if_pos hp, if_pos (by omega), if_pos (by omega), show e - 1 - p = i by omega]
    · rw [if_neg hp]
      by_cases hq : e - i ≤ p ∧ p < e
      · rw [if_pos hq, if_pos (by omega)]
      · rw [if_neg hq, if_neg (by omega)]
theorem sumR_sumF (K : List U32) (bs : List U8) : sumR K H0 bs = sumF K bs := by
  unfold sumR sumF
  obtain ⟨m, hm⟩ : ∃ m, m = bs.length / 64 := ⟨_, rfl⟩
  obtain ⟨k, hk⟩ : ∃ k, k = bs.length % 64 := ⟨_, rfl⟩
  have hend : (56 ≤ k ∧ endN k = 128) ∨ (¬ 56 ≤ k ∧ endN k = 64) := by
    unfold endN
    split
    · exact .inl ⟨by assumption, rfl⟩
    · exact .inr ⟨by assumption, rfl⟩
  have hnb : nbR bs.length = m + endN k / 64 := by
    unfold nbR padK
    omega
  have hA := allR_length bs 8
  have hp := nbR_eq bs.length
  rw [hnb, sums_add, ← hm, ← hk]
  have e1 : sums K H0 (allR bs 8) m = sums K H0 bs m := by
    refine sums_pre K H0 _ _ m fun p hp => ?_
    unfold allR
    rw [List.append_assoc, List.append_assoc, List.getElem?_append_left (by omega)]
  rw [e1]
  congr 1
  refine sums_pre K _ _ _ _ fun p hpp => ?_
  have hr : (bs.drop (64 * m)).length = k := by rw [List.length_drop]; omega
  have hX : (bs.drop (64 * m) ++ (List.replicate 128 (0 : U8)).drop k).length = 128 := by
    rw [List.length_append, hr, List.length_drop, List.length_replicate]; omega
  have hL : (lastA (bs.drop (64 * m))).length = 128 := lastA_length (by omega)
  rw [lastB_get _ _ _ 8 (by omega) (by omega) (by omega), List.getElem?_drop]
  have hpad : padK bs.length + k + 1 + 8 = endN k := by unfold padK; omega
  have hpe : p < endN k := by omega
  have hle : endN k ≤ 128 := by omega
  clear hend hnb hA hp e1
  unfold allR lastA
  rw [hr, List.getElem?_set, hX]
  by_cases h1 : p < k
  · rw [if_neg (by omega), if_neg (by omega), List.append_assoc, List.append_assoc, List.getElem?_append_left (by omega), List.getElem?_append_left (by omega), List.getElem?_drop]
  · rw [List.append_assoc, List.append_assoc, List.getElem?_append_right (by omega)]
    by_cases h2 : p = k
    · rw [if_neg (by omega), if_pos h2.symm, if_pos (by omega), show 64 * m + p - bs.length = 0 by omega]
      rfl
    · rw [List.getElem?_append_right (by simp; omega), List.length_singleton]
      by_cases h3 : p < endN k - 8
      · rw [if_neg (by omega), if_neg (by omega), List.getElem?_append_left (by rw [List.length_replicate]; omega), List.getElem?_append_right (by omega), List.getElem?_replicate, if_pos (by omega), hr, List.getElem?_drop, List.getElem?_replicate, if_pos (by omega)]
      · rw [if_pos (by omega), List.getElem?_append_right (by rw [List.length_replicate]; omega), List.length_replicate, List.getElem?_map, List.getElem?_range (by omega)]
        show some (BitVec.ofNat 8 (bs.length * 8 / 2 ^ (8 * (7 - (64 * m + p - bs.length - 1 - padK bs.length))))) = _
        rw [show 7 - (64 * m + p - bs.length - 1 - padK bs.length) = endN k - 1 - p by omega]
end Go.Proofs.YtjolmphkmfbpbaaDoor
/- The reference of layer 6: down, choose. -/
namespace Go.Proofs.YtjolmphkmfbpbaaDoor
open Go.RowKit
set_option maxRecDepth 20000
set_option maxHeartbeats 40000000
theorem ror_eq (a : U32) (n : Nat) (h : 0 < n ∧ n < 32) : (a >>> n) ||| (a <<< (32 - n)) = ror a n := by
  unfold ror
  rw [show 32 - (32 - n) = n by omega, BitVec.or_comm]
theorem rdown06_any (a : U32) (n : Nat) (h : 0 < n ∧ n < 32) (w : World) : Fn Tryd.prog 52 #[.int .u32 (a.toNat : Nat), .int .i64 (n : Nat)] w fun v N => v = .int .u32 ((ror a n).toNat : Nat) ∧ N = [] := by
  rw [← ror_eq a n h]
  refine Fn_of (args := [.int .u32 (a.toNat : Nat), .int .i64 (n : Nat)]) Tryd.func52 rfl Tryd.ntmps52 Tryd.results52 (by simp) ?_
  refine T_sr ?_
  refine S_as rfl rfl rfl ?_
  refine S_nx ?_
  refine T_seq ?_
  refine T_draw (by kernel_rfl) (by kernel_rfl) rfl ?_
  refine D0_val rfl rfl rfl (Y_move rfl) ?_
  refine D0_val rfl rfl rfl (Y_move rfl) ?_
  refine D0_val rfl rfl rfl (Y_bshr rfl rfl (nat_cast _)) ?_
  refine D0_val rfl rfl rfl (Y_move rfl) ?_
  refine D0_val rfl rfl rfl (Y_move rfl) ?_
  refine D0_val rfl rfl rfl (Y_subN rfl rfl (nat_lit' _) (nat_cast _) (by omega) (Nat.le_of_ble_eq_true rfl)) ?_
  refine D0_val rfl rfl rfl (Y_bshl rfl rfl (nat_cast _)) ?_
  refine D0_val rfl rfl rfl (Y_bor rfl rfl) ?_
  refine D0_val rfl rfl rfl (Y_assign rfl) ?_
  refine D0_nil ?_
  refine X_seq ?_
  refine T_ret ?_
  ((first | refine X_fin_ret ?_ | refine X_fin ?_); exact ⟨[_], [], .cons (.tmp rfl) .nil, Emb.nil _, rfl, rfl⟩)
theorem choose06_any (e f g : U32) (w : World) : Fn Tryd.prog 53 #[.int .u32 (e.toNat : Nat), .int .u32 (f.toNat : Nat), .int .u32 (g.toNat : Nat)] w fun v N => v = .int .u32 (((e &&& f) ^^^ (~~~ e &&& g)).toNat : Nat) ∧ N = [] := by
  rw [← or_xor e f g]
  refine Fn_of (args := [.int .u32 (e.toNat : Nat), .int .u32 (f.toNat : Nat), .int .u32 (g.toNat : Nat)]) Tryd.func53 rfl Tryd.ntmps53 Tryd.results53 (by simp) ?_
  refine T_sr ?_
  refine S_as rfl rfl rfl ?_
  refine S_nx ?_
  refine T_sr ?_
  refine S_mv rfl rfl rfl ?_
  refine S_mv rfl rfl rfl ?_
  refine S_val rfl rfl (Y_band rfl rfl) ?_
  refine S_mv rfl rfl rfl ?_
  refine S_val rfl rfl (Y_bsubm rfl rfl) ?_
  refine S_mv rfl rfl rfl ?_
  refine S_val rfl rfl (Y_band rfl rfl) ?_
  refine S_val rfl rfl (Y_bor rfl rfl) ?_
  refine S_as rfl rfl rfl ?_
  refine S_nx ?_
  refine T_ret ?_
  ((first | refine X_fin_ret ?_ | refine X_fin ?_); exact ⟨[_], [], .cons (.tmp rfl) .nil, Emb.nil _, rfl, rfl⟩)
end Go.Proofs.YtjolmphkmfbpbaaDoor
/- The reference of layer 6: Sum. -/
namespace Go.Proofs.YtjolmphkmfbpbaaDoor
open Go.RowKit
set_option maxRecDepth 20000
set_option maxHeartbeats 40000000
theorem rsum06_any (K h0 : List U32) (bs : List U8) (hK : K.length = 64) (hh : h0.length = 8) (hb : bs.length ≤ 1000000) (v : Value) (w : World) (hr : Rd w v .u8 (byl bs)) : Fn Tryd.prog 28 #[v, .agg (ints .u32 (bvl K)), .agg (ints .u32 (bvl h0))] w fun u N => u = .agg (ints .u8 (byl (sumR K h0 bs))) ∧ N = [] := by
  have hbl : (byl bs).length = bs.length := byl_length bs
  have hKl : (bvl K).length = 64 := by rw [bvl_length, hK]
  have hhl : (bvl h0).length = 8 := by rw [bvl_length, hh]
  unfold sumR
  refine Fn_of (args := [v, .agg (ints .u32 (bvl K)), .agg (ints .u32 (bvl h0))]) Tryd.func28 rfl Tryd.ntmps28 Tryd.results28 (by simp) ?_
  refine T_sr ?_
  refine S_boxA rfl rfl rfl fun _ => ?_
  refine S_boxA rfl rfl rfl fun _ => ?_
  refine S_allocA (zer rfl) rfl rfl fun _ => ?_
  refine S_nx ?_
  refine T_sr ?_
  refine S_sliceR (und rfl) (siz rfl) (zer rfl) rfl rfl rfl rfl fun _ => ?_
  refine S_as rfl rfl rfl ?_
  refine S_nx ?_
  refine T_sr ?_
  refine S_mv rfl rfl rfl ?_
  refine S_mv rfl rfl rfl ?_
  refine S_append 3 rfl (und rfl) (und rfl) (siz rfl) (byt rfl) (zer rfl) rfl rfl rfl (fun _ hs => Rd.st (by assumption) hs) (by simp; omega) rfl rfl rfl fun _ => ?_
  refine S_as rfl rfl rfl ?_
  refine S_nx ?_
  refine T_sr ?_
  refine S_mv rfl rfl rfl ?_
  refine S_sliceR (und rfl) (siz rfl) (zer rfl) rfl rfl rfl rfl fun _ => ?_
  refine S_append 3 rfl (und rfl) (und rfl) (siz rfl) (byt rfl) (zer rfl) rfl rfl rfl (fun _ hs => hs.rowRd 4 rfl) (by simp; omega) rfl rfl rfl fun _ => ?_
  refine S_as rfl rfl rfl ?_
  refine S_nx ?_
  refine T_seq ?_
  refine T_block ?_
  rename_i bK bH bO s0 s1 s2 s3
  have eB : [] ++ byl bs ++ [128] = byl (bs ++ [128]) := by rw [List.nil_append]; exact byl_append bs [128]
  refine T_loopE (α := Nat × Value) (fun a => a.1 ≤ padK bs.length)
    (fun a => [(0, v), (4, .pointer (some ⟨bK, 0, none⟩)), (5, .pointer (some ⟨bH, 0, none⟩)), (6, .pointer (some ⟨bO, 0, none⟩)), (7, a.2)])
    (fun a => [blk bK (.cells (ints .u32 (bvl K)) 57 (0, 0)), blk bH (.cells (ints .u32 (bvl h0)) 46 (0, 0)), blk bO (.cells (ints .u8 (List.replicate 32 0)) 34 (0, 0)), row .u8 (byl (bs ++ [128] ++ List.replicate a.1 0)) a.2])
    (fun a => padK bs.length - a.1) (0, s3) (Nat.zero_le _) (by repeat (first | exact Env.sub_nil _ | (apply Env.sub_cons; rfl))) (by dsimp only; rw [List.replicate_zero, List.append_nil, ← eB]; exact Emb.idx [0, 1, 2, 3] rfl rfl) ?_
  rintro ⟨i, u⟩ hi
  dsimp only at hi ⊢
  have hlen : (byl (bs ++ [128] ++ List.replicate i 0)).length = bs.length + 1 + i := by rw [byl_length]; simp; omega
  have hlen2 : (bs ++ [128] ++ List.replicate i 0).length = bs.length + 1 + i := by simp; omega
  have hlen0 : bs.length + 1 + i ≤ 1099511627775 := by unfold padK at hi; omega
  by_cases h : i < padK bs.length
  · have hne : ¬ (((bs.length + 1 + i) % 64 : Nat) : Int) = 56 := by unfold padK at h; omega
    have he : byl (bs ++ [128] ++ List.replicate (i + 1) 0) = byl (bs ++ [128] ++ List.replicate i 0) ++ [0] := by
      rw [List.replicate_succ', ← List.append_assoc, ← byl_append]
      rfl
    generalize bs ++ [128] ++ List.replicate i 0 = A at *
    refine T_seq ?_
    refine T_sr ?_
    refine S_mv rfl rfl rfl ?_
    refine S_val rfl rfl (Y_lenV rfl (und rfl) rfl (fun _ hs => hs.rowRd 3 rfl) (by assumption)) ?_
    refine S_val rfl rfl (Y_remN rfl rfl (nat_cast _) (nat_lit' _) (Nat.succ_ne_zero _)) ?_
    refine S_val rfl rfl (Y_neq_t rfl rfl (by assumption)) ?_
    refine S_nx ?_
    refine T_cond_true rfl ?_
    refine T_skip ?_
    refine X_seq ?_
    refine T_block ?_
    refine T_region ?_
    refine S_mv rfl rfl rfl ?_
    refine S_sliceR (und rfl) (siz rfl) (zer rfl) rfl rfl rfl rfl fun _ => ?_
    refine S_append 3 rfl (und rfl) (und rfl) (siz rfl) (byt rfl) (zer rfl) rfl rfl rfl (fun _ hs => hs.rowRd 4 rfl) (by simp; omega) rfl rfl rfl fun _ => ?_
    refine S_as rfl rfl rfl ?_
    refine S_nil ?_
    refine X_blk ?_
    refine X_loop ?_
    exact ⟨(i + 1, _), by dsimp only; omega, by dsimp only; omega, (by repeat (first | exact Env.sub_nil _ | (apply Env.sub_cons; rfl))), by dsimp only; rw [he]; exact Emb.idx [0, 1, 2, 3] rfl rfl⟩
  · obtain rfl : i = padK bs.length := by omega
    have heq : (((bs.length + 1 + padK bs.length) % 64 : Nat) : Int) = 56 := by unfold padK; omega
    have hA0 : bs ++ [128] ++ List.replicate (padK bs.length) 0 = allR bs 0 := by unfold allR; rw [List.range_zero, List.map_nil, List.append_nil]
    have hAl := allR_length bs
    have hAs := allR_succ bs
    have hnb := nbR_eq bs.length
    rw [hA0] at hlen ⊢
    generalize nbR bs.length = nb at *
    generalize hpk : padK bs.length = pk at *
    have hpk2 : pk ≤ 64 := by rw [← hpk]; unfold padK; omega
    generalize allR bs = AF at *
    clear hA0 h hi hpk
    generalize hA0 : AF 0 = A0 at *
    refine T_seq ?_
    refine T_sr ?_
    refine S_mv rfl rfl rfl ?_
    refine S_val rfl rfl (Y_lenV rfl (und rfl) rfl (fun _ hs => hs.rowRd 3 rfl) (by assumption)) ?_
    refine S_val rfl rfl (Y_remN rfl rfl (nat_cast _) (nat_lit' _) (Nat.succ_ne_zero _)) ?_
    refine S_val rfl rfl (Y_neq_f rfl rfl (by omega)) ?_
    refine S_nx ?_
    refine T_cond_false rfl ?_
    refine T_exit ?_
    refine X_seq_exit ?_
    refine X_loop_exit ?_
    refine X_blk_hit rfl ?_
    refine X_seq ?_
    refine T_sr ?_
    refine S_mv rfl rfl rfl ?_
    refine S_val rfl rfl (Y_lenV rfl (und rfl) rfl (fun _ hs => Rd.st (by assumption) hs) (by assumption)) ?_
    refine S_val rfl rfl (Y_conv (und rfl) (und rfl) rfl (wu64 (by omega) (by omega))) ?_
    refine S_val rfl rfl (Y_mulU rfl rfl (nat_cast _) (nat_lit' _) rfl (by simp only [IntKind.bits]; omega)) ?_
    refine S_as rfl rfl rfl ?_
    refine S_nx ?_
    refine T_seq ?_
    refine T_sr ?_
    refine S_as rfl rfl rfl ?_
    refine S_nx ?_
    refine T_block ?_
    refine T_loopE (α := Nat × Value) (fun a => a.1 ≤ 8)
      (fun a => [(4, .pointer (some ⟨bK, 0, none⟩)), (5, .pointer (some ⟨bH, 0, none⟩)), (6, .pointer (some ⟨bO, 0, none⟩)), (7, a.2), (8, .int .u64 (bs.length * 8 : Nat)), (9, .int .i64 ((a.1 : Nat) - 1))])
      (fun a => [blk bK (.cells (ints .u32 (bvl K)) 57 (0, 0)), blk bH (.cells (ints .u32 (bvl h0)) 46 (0, 0)), blk bO (.cells (ints .u8 (List.replicate 32 0)) 34 (0, 0)), row .u8 (byl (AF (8 - a.1))) a.2])
      (fun a => a.1) (8, u) (Nat.le_refl _) (by repeat (first | exact Env.sub_nil _ | (apply Env.sub_cons; rfl))) (by dsimp only; rw [Nat.sub_self, hA0]; exact Emb.idx [0, 1, 2, 3] rfl rfl) ?_
    rintro ⟨j, u2⟩ hj
    dsimp only at hj ⊢
    by_cases h : j = 0
    · subst h
      have hAL := hAl 8
      rw [Nat.sub_zero]
      clear hAs
      generalize AF 8 = A at *
      have hA : A.length = 64 * nb := by omega
      have hAb : (byl A).length = 64 * nb := by rw [byl_length, hA]
      have hnb2 : nb ≤ 20000 := by omega
      clear hAl hAL hlen hlen0 heq hbl hb hr
      refine T_seq ?_
      refine T_sr ?_
      refine S_mv rfl rfl rfl ?_
      refine S_val rfl rfl (Y_geq_f rfl rfl (by decide)) ?_
      refine S_nx ?_
      refine T_cond_false rfl ?_
      refine T_exit ?_
      refine X_seq_exit ?_
      refine X_loop_exit ?_
      refine X_blk_hit rfl ?_
      refine X_seq ?_
      refine T_seq ?_
      refine T_sr ?_
      refine S_as rfl rfl rfl ?_
      refine S_nx ?_
      refine T_block ?_
      refine T_loopE (α := Nat) (fun i => i ≤ nb)
        (fun i => [(4, .pointer (some ⟨bK, 0, none⟩)), (5, .pointer (some ⟨bH, 0, none⟩)), (6, .pointer (some ⟨bO, 0, none⟩)), (7, u2), (10, .int .i64 (64 * i : Nat))])
        (fun i => [blk bK (.cells (ints .u32 (bvl K)) 57 (0, 0)), blk bH (.cells (ints .u32 (bvl (sums K h0 A i))) 46 (0, 0)), blk bO (.cells (ints .u8 (List.replicate 32 0)) 34 (0, 0)), row .u8 (byl A) u2])
        (fun i => nb - i) 0 (Nat.zero_le _) (by repeat (first | exact Env.sub_nil _ | (apply Env.sub_cons; rfl))) (by rw [sums_zero]; exact Emb.idx [0, 1, 2, 3] rfl rfl) ?_
      intro i hi
      have hsl := sums_length (K := K) (bs := A) hh i
      by_cases h : i < nb
      · have hsn := sums_succ K h0 A i
        generalize hs1 : sums K h0 A (i + 1) = l1 at *
        generalize sums K h0 A i = l at *
        have hll : (bvl l).length = 8 := by rw [bvl_length, hsl]
        unfold blockF at hsn
        refine T_seq ?_
        refine T_sr ?_
        refine S_mv rfl rfl rfl ?_
        refine S_mv rfl rfl rfl ?_
        refine S_val rfl rfl (Y_lenV rfl (und rfl) rfl (fun _ hs => hs.rowRd 3 rfl) (by assumption)) ?_
        refine S_val rfl rfl (Y_lss_t rfl rfl (by omega)) ?_
        refine S_nx ?_
        refine T_cond_true rfl ?_
        refine T_skip ?_
        refine X_seq ?_
        refine T_seq ?_
        refine T_block ?_
        refine T_sr ?_
        refine S_val rfl rfl (Y_build (und rfl) (siz rfl) (zer rfl) rfl rfl) ?_
        refine S_allocA (zer rfl) rfl rfl fun _ => ?_
        refine S_storeAI 4 (siz rfl) rfl rfl rfl rfl rfl rfl ?_
        refine S_nx ?_
        refine T_seq ?_
        refine T_sr ?_
        refine S_as rfl rfl rfl ?_
        refine S_nx ?_
        refine T_block ?_
        rename_i bW
        refine T_loopE (α := Nat) (fun j => j ≤ 64)
          (fun j => [(4, .pointer (some ⟨bK, 0, none⟩)), (5, .pointer (some ⟨bH, 0, none⟩)), (6, .pointer (some ⟨bO, 0, none⟩)), (7, u2), (10, .int .i64 (64 * i : Nat)), (11, .pointer (some ⟨bW, 0, none⟩)), (12, .int .i64 j)])
          (fun j => [blk bK (.cells (ints .u32 (bvl K)) 57 (0, 0)), blk bH (.cells (ints .u32 (bvl l)) 46 (0, 0)), blk bO (.cells (ints .u8 (List.replicate 32 0)) 34 (0, 0)), row .u8 (byl A) u2, blk bW (.cells (ints .u32 (bvl (wR ((A.drop (64 * i)).take 64) j))) 57 (0, 0))])
          (fun j => 64 - j) 0 (Nat.zero_le _) (by repeat (first | exact Env.sub_nil _ | (apply Env.sub_cons; rfl))) (by rw [wR_zero, bvl_zero]; exact Emb.idx [0, 1, 2, 3, 4] rfl rfl) ?_
        intro j hj
        have hwl := wR_length ((A.drop (64 * i)).take 64) j
        by_cases h16 : j < 16
        · have hb : ∀ q, q < 4 → ∃ c : U8, (((byl A).drop (64 * i + 4 * j)).take (64 * i + 4 * j + 4 - (64 * i + 4 * j)))[q]? = some ((c.toNat : Nat) : Int) ∧ c32 ((A.drop (64 * i)).take 64) (4 * j + q) = c.setWidth 32 := fun q hq => by
            obtain ⟨c, hc⟩ := some_get hA (show 64 * i + 4 * j + q < 64 * nb by omega)
            refine ⟨c, ?_, ?_⟩
            · rw [List.getElem?_take, if_pos (by omega), List.getElem?_drop, byl_get hc]
            · unfold c32
              rw [List.getElem?_take, if_pos (by omega), List.getElem?_drop, ← Nat.add_assoc, hc]
              rfl
          obtain ⟨c0, q0, r0⟩ := hb 0 (by omega)
          obtain ⟨c1, q1, r1⟩ := hb 1 (by omega)
          obtain ⟨c2, q2, r2⟩ := hb 2 (by omega)
          obtain ⟨c3, q3, r3⟩ := hb 3 (by omega)
          clear hb
          have hn := wR_lo ((A.drop (64 * i)).take 64) j h16
          rw [show 4 * j = 4 * j + 0 from rfl, r0, r1, r2, r3] at hn
          generalize hx1 : wR ((A.drop (64 * i)).take 64) (j + 1) = x1 at *
          generalize wR ((A.drop (64 * i)).take 64) j = x0 at *
          clear r0 r1 r2 r3
          have hset := bvl_set x0 j ((c0.setWidth 32 <<< 24) + (c1.setWidth 32 <<< 16) + (c2.setWidth 32 <<< 8) + c3.setWidth 32)
          rw [← hn] at hset
          clear hn
          refine T_sh 3 rfl fun hsh => ?_
          have hsh2 := hsh.win (lo := 64 * i + 4 * j) (hi := 64 * i + 4 * j + 4) (by omega) (by rw [hAb]; omega) (by rw [hAb]; omega)
          refine T_seq ?_
          refine T_sr ?_
          refine S_mv rfl rfl rfl ?_
          refine S_val rfl rfl (Y_lss_t rfl rfl (by omega)) ?_
          refine S_nx ?_
          refine T_cond_true rfl ?_
          refine T_skip ?_
          refine X_seq ?_
          refine T_seq ?_
          refine T_block ?_
          refine T_seq ?_
          refine T_sr ?_
          refine S_mv rfl rfl rfl ?_
          refine S_val rfl rfl (Y_lss_t rfl rfl (by omega)) ?_
          refine S_nx ?_
          refine T_cond_true rfl ?_
          refine T_sr ?_
          refine S_mv rfl rfl rfl ?_
          refine S_mv rfl rfl rfl ?_
          refine S_mv rfl rfl rfl ?_
          refine S_val rfl rfl (Y_mulN rfl rfl (nat_lit' _) (nat_cast _) (by omega)) ?_
          refine S_val rfl rfl (Y_addN rfl rfl (nat_cast _) (nat_cast _) (by omega)) ?_
          refine S_mv rfl rfl rfl ?_
          refine S_mv rfl rfl rfl ?_
          refine S_val rfl rfl (Y_mulN rfl rfl (nat_lit' _) (nat_cast _) (by omega)) ?_
          refine S_val rfl rfl (Y_addN rfl rfl (nat_cast _) (nat_cast _) (by omega)) ?_
          refine S_val rfl rfl (Y_addN rfl rfl (nat_cast _) (nat_lit' _) (by omega)) ?_
          refine S_val rfl rfl (Y_sliceLHV (und rfl) (siz rfl) rfl rfl rfl (fun _ hs => hs.rowRd 3 rfl) (nat_cast _) (nat_cast _) (by omega) (by simp; omega)) ?_
          refine S_as rfl rfl rfl ?_
          refine S_nx ?_
          refine T_seq ?_
          refine T_draw (by kernel_rfl) (by kernel_rfl) rfl ?_
          refine D0_val rfl rfl rfl (Y_move rfl) ?_
          refine D0_val rfl rfl rfl (Y_move rfl) ?_
          refine D0_val rfl rfl rfl (Y_ixS (und rfl) (siz rfl) rfl rfl (by assumption) (nat_lit' _) (by omega)) ?_
          refine D0_valM rfl rfl rfl (Y_loadW 3 (und rfl) rfl rfl rfl (by omega) (by omega) (by assumption)) ?_
          refine D0_valM rfl rfl rfl (Y_bconv (und rfl) (und rfl) rfl) ?_
          refine D0_val rfl rfl rfl (Y_bshl rfl rfl (nat_lit' _)) ?_
          refine D0_val rfl rfl rfl (Y_move rfl) ?_
          refine D0_val rfl rfl rfl (Y_ixS (und rfl) (siz rfl) rfl rfl (by assumption) (nat_lit' _) (by omega)) ?_
          refine D0_valM rfl rfl rfl (Y_loadW 3 (und rfl) rfl rfl rfl (by omega) (by omega) (by assumption)) ?_
          refine D0_valM rfl rfl rfl (Y_bconv (und rfl) (und rfl) rfl) ?_
          refine D0_val rfl rfl rfl (Y_bshl rfl rfl (nat_lit' _)) ?_
          refine D0_val rfl rfl rfl (Y_badd rfl rfl) ?_
          refine D0_val rfl rfl rfl (Y_move rfl) ?_
          refine D0_val rfl rfl rfl (Y_ixS (und rfl) (siz rfl) rfl rfl (by assumption) (nat_lit' _) (by omega)) ?_
          refine D0_valM rfl rfl rfl (Y_loadW 3 (und rfl) rfl rfl rfl (by omega) (by omega) (by assumption)) ?_
          refine D0_valM rfl rfl rfl (Y_bconv (und rfl) (und rfl) rfl) ?_
          refine D0_val rfl rfl rfl (Y_bshl rfl rfl (nat_lit' _)) ?_
          refine D0_val rfl rfl rfl (Y_badd rfl rfl) ?_
          refine D0_val rfl rfl rfl (Y_move rfl) ?_
          refine D0_val rfl rfl rfl (Y_ixS (und rfl) (siz rfl) rfl rfl (by assumption) (nat_lit' _) (by omega)) ?_
          refine D0_valM rfl rfl rfl (Y_loadW 3 (und rfl) rfl rfl rfl (by omega) (by omega) (by assumption)) ?_
          refine D0_valM rfl rfl rfl (Y_bconv (und rfl) (und rfl) rfl) ?_
          refine D0_val rfl rfl rfl (Y_badd rfl rfl) ?_
          refine D0_val rfl rfl rfl (Y_ixa (und rfl) (siz rfl) rfl rfl (nat_cast _) (by omega)) ?_
          refine D0_storeI 4 (by kernel_rfl) (siz rfl) rfl rfl rfl (by simp; omega) rfl rfl ?_
          refine D0_nil ?_
          refine X_seq ?_
          refine T_exit ?_
          refine X_seq_exit ?_
          refine X_blk_hit rfl ?_
          refine X_seq ?_
          refine T_region ?_
          refine S_mv rfl rfl rfl ?_
          refine S_val rfl rfl (Y_addN rfl rfl (nat_cast _) (nat_lit' _) (by omega)) ?_
          refine S_as rfl rfl rfl ?_
          refine S_nil ?_
          refine X_loop ?_
          exact ⟨j + 1, by omega, by omega, (by repeat (first | exact Env.sub_nil _ | (apply Env.sub_cons; rfl))), by (try dsimp only); rw [hx1, ← hset]; exact Emb.idx [0, 1, 2, 3, 4] rfl rfl⟩
        · by_cases h64 : j < 64
          · have hn := wR_hi ((A.drop (64 * i)).take 64) j h16
            have p16 := bvl_w0 hwl (show j - 16 < 64 by omega)
            have p7 := bvl_w0 hwl (show j - 7 < 64 by omega)
            have p15 := bvl_w0 hwl (show j - 15 < 64 by omega)
            have p2 := bvl_w0 hwl (show j - 2 < 64 by omega)
            generalize hx1 : wR ((A.drop (64 * i)).take 64) (j + 1) = x1 at *
            generalize wR ((A.drop (64 * i)).take 64) j = x0 at *
            generalize w0 x0 (j - 16) = z16 at *
            generalize w0 x0 (j - 7) = z7 at *
            generalize w0 x0 (j - 15) = z15 at *
            generalize w0 x0 (j - 2) = z2 at *
            have hset := bvl_set x0 j (z16 + z7 + sg0 z15 + sg1 z2)
            rw [← hn] at hset
            unfold sg0 sg1 at hset
            clear hn
            refine T_seq ?_
            refine T_sr ?_
            refine S_mv rfl rfl rfl ?_
            refine S_val rfl rfl (Y_lss_t rfl rfl (by omega)) ?_
            refine S_nx ?_
            refine T_cond_true rfl ?_
            refine T_skip ?_
            refine X_seq ?_
            refine T_seq ?_
            refine T_block ?_
            refine T_seq ?_
            refine T_sr ?_
            refine S_mv rfl rfl rfl ?_
            refine S_val rfl rfl (Y_lss_f rfl rfl (by omega)) ?_
            refine S_nx ?_
            refine T_cond_false rfl ?_
            refine T_skip ?_
            refine X_seq ?_
            refine T_sr ?_
            refine S_mv rfl rfl rfl ?_
            refine S_val rfl rfl (Y_subN rfl rfl (nat_cast _) (nat_lit' _) (by omega) (by omega)) ?_
            refine S_val rfl rfl (Y_ixa (und rfl) (siz rfl) rfl rfl (nat_cast _) (by omega)) ?_
            refine S_val rfl rfl (Y_loadI 4 (und rfl) rfl rfl rfl (by assumption)) ?_
            refine S_as rfl rfl rfl ?_
            refine S_nx ?_
            refine T_sr ?_
            refine S_mv rfl rfl rfl ?_
            refine S_val rfl rfl (Y_subN rfl rfl (nat_cast _) (nat_lit' _) (by omega) (by omega)) ?_
            refine S_val rfl rfl (Y_ixa (und rfl) (siz rfl) rfl rfl (nat_cast _) (by omega)) ?_
            refine S_val rfl rfl (Y_loadI 4 (und rfl) rfl rfl rfl (by assumption)) ?_
            refine S_as rfl rfl rfl ?_
            refine S_nx ?_
            refine T_draw (by kernel_rfl) (by kernel_rfl) rfl ?_
            refine D0_val rfl rfl rfl (Y_move rfl) ?_
            refine D0_val rfl rfl rfl (Y_move rfl) ?_
            refine D0_val rfl rfl rfl (Y_subN rfl rfl (nat_cast _) (nat_lit' _) (by omega) (by omega)) ?_
            refine D0_val rfl rfl rfl (Y_ixa (und rfl) (siz rfl) rfl rfl (nat_cast _) (by omega)) ?_
            refine D0_valM rfl rfl rfl (Y_loadI 4 (und rfl) rfl rfl rfl (by assumption)) ?_
            refine D0_val rfl rfl rfl (Y_move rfl) ?_
            refine D0_val rfl rfl rfl (Y_subN rfl rfl (nat_cast _) (nat_lit' _) (by omega) (by omega)) ?_
            refine D0_val rfl rfl rfl (Y_ixa (und rfl) (siz rfl) rfl rfl (nat_cast _) (by omega)) ?_
            refine D0_valM rfl rfl rfl (Y_loadI 4 (und rfl) rfl rfl rfl (by assumption)) ?_
            refine D0_val rfl rfl rfl (Y_badd rfl rfl) ?_
            refine D0_val rfl rfl rfl (Y_move rfl) ?_
            refine D0_callV rfl rfl (bod rfl) (fun w hs => rdown06_any z15 7 (by omega) _) rfl rfl ?_
            refine D0_val rfl rfl rfl (Y_move rfl) ?_
            refine D0_callV rfl rfl (bod rfl) (fun w hs => rdown06_any z15 18 (by omega) _) rfl rfl ?_
            refine D0_val rfl rfl rfl (Y_bxor rfl rfl) ?_
            refine D0_val rfl rfl rfl (Y_move rfl) ?_
            refine D0_val rfl rfl rfl (Y_bquo8 rfl rfl) ?_
            refine D0_val rfl rfl rfl (Y_bxor rfl rfl) ?_
            refine D0_val rfl rfl rfl (Y_badd rfl rfl) ?_
            refine D0_val rfl rfl rfl (Y_move rfl) ?_
            refine D0_callV rfl rfl (bod rfl) (fun w hs => rdown06_any z2 17 (by omega) _) rfl rfl ?_
            refine D0_val rfl rfl rfl (Y_move rfl) ?_
            refine D0_callV rfl rfl (bod rfl) (fun w hs => rdown06_any z2 19 (by omega) _) rfl rfl ?_
            refine D0_val rfl rfl rfl (Y_bxor rfl rfl) ?_
            refine D0_val rfl rfl rfl (Y_move rfl) ?_
            refine D0_val rfl rfl rfl (Y_bquo1024 rfl rfl) ?_
            refine D0_val rfl rfl rfl (Y_bxor rfl rfl) ?_
            refine D0_val rfl rfl rfl (Y_badd rfl rfl) ?_
            refine D0_val rfl rfl rfl (Y_ixa (und rfl) (siz rfl) rfl rfl (nat_cast _) (by assumption)) ?_
            refine D0_storeI 4 (by kernel_rfl) (siz rfl) rfl rfl rfl (by simp; omega) rfl rfl ?_
            refine D0_nil ?_
            refine X_blk ?_
            refine X_seq ?_
            refine T_region ?_
            refine S_mv rfl rfl rfl ?_
            refine S_val rfl rfl (Y_addN rfl rfl (nat_cast _) (nat_lit' _) (by omega)) ?_
            refine S_as rfl rfl rfl ?_
            refine S_nil ?_
            refine X_loop ?_
            exact ⟨j + 1, by omega, by omega, (by repeat (first | exact Env.sub_nil _ | (apply Env.sub_cons; rfl))), by (try dsimp only); rw [hx1, ← hset]; exact Emb.idx [0, 1, 2, 3, 4] rfl rfl⟩
          · obtain rfl : j = 64 := by omega
            rw [wR_all]
            have hWl : (wAll ((A.drop (64 * i)).take 64)).length = 64 := wB_length _ 48
            generalize wAll ((A.drop (64 * i)).take 64) = X at *
            have hXl : (bvl X).length = 64 := by rw [bvl_length, hWl]
            clear hj h16 h64 hwl
            refine T_seq ?_
            refine T_sr ?_
            refine S_mv rfl rfl rfl ?_
            refine S_val rfl rfl (Y_lss_f rfl rfl (by decide)) ?_
            refine S_nx ?_
            refine T_cond_false rfl ?_
            refine T_exit ?_
            refine X_seq_exit ?_
            refine X_loop_exit ?_
            refine X_blk_hit rfl ?_
            refine X_seq ?_
            refine T_sr ?_
            refine S_val rfl rfl (Y_loadAI 1 (und rfl) rfl rfl rfl (siz rfl) (by assumption)) ?_
            refine S_allocA (zer rfl) rfl rfl fun _ => ?_
            refine S_storeAI 5 (siz rfl) rfl rfl rfl rfl (by assumption) rfl ?_
            refine S_nx ?_
            refine T_seq ?_
            refine T_sr ?_
            refine S_as rfl rfl rfl ?_
            refine S_nx ?_
            refine T_block ?_
            rename_i bV
            refine T_loopE (α := Nat) (fun r => r ≤ 64)
              (fun r => [(4, .pointer (some ⟨bK, 0, none⟩)), (5, .pointer (some ⟨bH, 0, none⟩)), (6, .pointer (some ⟨bO, 0, none⟩)), (7, u2), (10, .int .i64 (64 * i : Nat)), (11, .pointer (some ⟨bW, 0, none⟩)), (16, .pointer (some ⟨bV, 0, none⟩)), (17, .int .i64 r)])
              (fun r => [blk bK (.cells (ints .u32 (bvl K)) 57 (0, 0)), blk bH (.cells (ints .u32 (bvl l)) 46 (0, 0)), blk bO (.cells (ints .u8 (List.replicate 32 0)) 34 (0, 0)), row .u8 (byl A) u2, blk bW (.cells (ints .u32 (bvl X)) 57 (0, 0)), blk bV (.cells (ints .u32 (bvl (l8 (rs K X (t8 l) r)))) 46 (0, 0))])
              (fun r => 64 - r) 0 (Nat.zero_le _) (by repeat (first | exact Env.sub_nil _ | (apply Env.sub_cons; rfl))) (by rw [rs_zero, l8_t8 hsl]; exact Emb.idx [0, 1, 2, 3, 4, 5] rfl rfl) ?_
            intro r hr
            by_cases h5 : r < 64
            · have hk := bvl_w0 hK h5
              have hx := bvl_w0 hWl h5
              have hn := rs_succ K X (t8 l) r
              generalize w0 K r = k0 at *
              generalize w0 X r = x0 at *
              generalize hs2 : rs K X (t8 l) (r + 1) = s2 at *
              generalize rs K X (t8 l) r = s at *
              obtain ⟨va, vb, vc, vd, ve, vf, vg, vh⟩ := s
              obtain ⟨T0, hT⟩ : ∃ x, x = rndT ve vf vg vh k0 x0 := ⟨_, rfl⟩
              obtain ⟨U0, hU⟩ : ∃ x, x = (ror va 2 ^^^ ror va 13 ^^^ ror va 22) + ((va &&& vb) ||| (va &&& vc) ||| (vb &&& vc)) := ⟨_, rfl⟩
              have hU2 : rndU va vb vc = U0 := by rw [hU, maj_xor]; rfl
              have hn2 : bvl (l8 s2) = bvl [T0 + U0, va, vb, vc, vd + T0, ve, vf, vg] := by rw [hn, hT, ← hU2]; rfl
              have h7 := shR_7 va vb vc vd ve vf vg vh
              have h7l := shR_length [va, vb, vc, vd, ve, vf, vg, vh]
              have h7s := shR_succ [va, vb, vc, vd, ve, vf, vg, vh]
              have h70 := shR_zero [va, vb, vc, vd, ve, vf, vg, vh]
              generalize hSF : shR [va, vb, vc, vd, ve, vf, vg, vh] = SF at *
              clear hn hU2 hSF
              refine T_seq ?_
              refine T_sr ?_
              refine S_mv rfl rfl rfl ?_
              refine S_val rfl rfl (Y_lss_t rfl rfl (by omega)) ?_
              refine S_nx ?_
              refine T_cond_true rfl ?_
              refine T_skip ?_
              refine X_seq ?_
              refine T_seq ?_
              refine T_block ?_
              refine T_seq ?_
              refine T_draw (by kernel_rfl) (by kernel_rfl) rfl ?_
              refine D0_val rfl rfl rfl (Y_ixa (und rfl) (siz rfl) rfl rfl (nat_lit' _) (Nat.le_of_ble_eq_true rfl)) ?_
              refine D0_valM rfl rfl rfl (Y_loadI 5 (und rfl) rfl rfl rfl rfl) ?_
              refine D0_val rfl rfl rfl (Y_ixa (und rfl) (siz rfl) rfl rfl (nat_lit' _) (Nat.le_of_ble_eq_true rfl)) ?_
              refine D0_valM rfl rfl rfl (Y_loadI 5 (und rfl) rfl rfl rfl rfl) ?_
              refine D0_callV rfl rfl (bod rfl) (fun w hs => rdown06_any ve 6 (by omega) _) rfl rfl ?_
              refine D0_val rfl rfl rfl (Y_ixa (und rfl) (siz rfl) rfl rfl (nat_lit' _) (Nat.le_of_ble_eq_true rfl)) ?_
              refine D0_valM rfl rfl rfl (Y_loadI 5 (und rfl) rfl rfl rfl rfl) ?_
              refine D0_callV rfl rfl (bod rfl) (fun w hs => rdown06_any ve 11 (by omega) _) rfl rfl ?_
              refine D0_val rfl rfl rfl (Y_bxor rfl rfl) ?_
              refine D0_val rfl rfl rfl (Y_ixa (und rfl) (siz rfl) rfl rfl (nat_lit' _) (Nat.le_of_ble_eq_true rfl)) ?_
              refine D0_valM rfl rfl rfl (Y_loadI 5 (und rfl) rfl rfl rfl rfl) ?_
              refine D0_callV rfl rfl (bod rfl) (fun w hs => rdown06_any ve 25 (by omega) _) rfl rfl ?_
              refine D0_val rfl rfl rfl (Y_bxor rfl rfl) ?_
              refine D0_val rfl rfl rfl (Y_badd rfl rfl) ?_
              refine D0_val rfl rfl rfl (Y_ixa (und rfl) (siz rfl) rfl rfl (nat_lit' _) (Nat.le_of_ble_eq_true rfl)) ?_
              refine D0_valM rfl rfl rfl (Y_loadI 5 (und rfl) rfl rfl rfl rfl) ?_
              refine D0_val rfl rfl rfl (Y_ixa (und rfl) (siz rfl) rfl rfl (nat_lit' _) (Nat.le_of_ble_eq_true rfl)) ?_
              refine D0_valM rfl rfl rfl (Y_loadI 5 (und rfl) rfl rfl rfl rfl) ?_
              refine D0_val rfl rfl rfl (Y_ixa (und rfl) (siz rfl) rfl rfl (nat_lit' _) (Nat.le_of_ble_eq_true rfl)) ?_
              refine D0_valM rfl rfl rfl (Y_loadI 5 (und rfl) rfl rfl rfl rfl) ?_
              refine D0_callV rfl rfl (bod rfl) (fun w hs => choose06_any ve vf vg _) rfl rfl ?_
              refine D0_val rfl rfl rfl (Y_badd rfl rfl) ?_
              refine D0_val rfl rfl rfl (Y_move rfl) ?_
              refine D0_val rfl rfl rfl (Y_ixa (und rfl) (siz rfl) rfl rfl (nat_cast _) (by assumption)) ?_
              refine D0_valM rfl rfl rfl (Y_loadI 0 (und rfl) rfl rfl rfl (by assumption)) ?_
              refine D0_val rfl rfl rfl (Y_badd rfl rfl) ?_
              refine D0_val rfl rfl rfl (Y_move rfl) ?_
              refine D0_val rfl rfl rfl (Y_ixa (und rfl) (siz rfl) rfl rfl (nat_cast _) (by assumption)) ?_
              refine D0_valM rfl rfl rfl (Y_loadI 4 (und rfl) rfl rfl rfl (by assumption)) ?_
              refine D0_val rfl rfl rfl (Y_badd rfl rfl) ?_
              refine D0_val rfl rfl rfl (Y_assign rfl) ?_
              refine D0_nil ?_
              refine X_seq ?_
              refine T_seq ?_
              refine T_draw (by kernel_rfl) (by kernel_rfl) rfl ?_
              refine D0_val rfl rfl rfl (Y_ixa (und rfl) (siz rfl) rfl rfl (nat_lit' _) (Nat.le_of_ble_eq_true rfl)) ?_
              refine D0_valM rfl rfl rfl (Y_loadI 5 (und rfl) rfl rfl rfl rfl) ?_
              refine D0_callV rfl rfl (bod rfl) (fun w hs => rdown06_any va 2 (by omega) _) rfl rfl ?_
              refine D0_val rfl rfl rfl (Y_ixa (und rfl) (siz rfl) rfl rfl (nat_lit' _) (Nat.le_of_ble_eq_true rfl)) ?_
              refine D0_valM rfl rfl rfl (Y_loadI 5 (und rfl) rfl rfl rfl rfl) ?_
              refine D0_callV rfl rfl (bod rfl) (fun w hs => rdown06_any va 13 (by omega) _) rfl rfl ?_
              refine D0_val rfl rfl rfl (Y_bxor rfl rfl) ?_
              refine D0_val rfl rfl rfl (Y_ixa (und rfl) (siz rfl) rfl rfl (nat_lit' _) (Nat.le_of_ble_eq_true rfl)) ?_
              refine D0_valM rfl rfl rfl (Y_loadI 5 (und rfl) rfl rfl rfl rfl) ?_
              refine D0_callV rfl rfl (bod rfl) (fun w hs => rdown06_any va 22 (by omega) _) rfl rfl ?_
              refine D0_val rfl rfl rfl (Y_bxor rfl rfl) ?_
              refine D0_val rfl rfl rfl (Y_ixa (und rfl) (siz rfl) rfl rfl (nat_lit' _) (Nat.le_of_ble_eq_true rfl)) ?_
              refine D0_valM rfl rfl rfl (Y_loadI 5 (und rfl) rfl rfl rfl rfl) ?_
              refine D0_val rfl rfl rfl (Y_ixa (und rfl) (siz rfl) rfl rfl (nat_lit' _) (Nat.le_of_ble_eq_true rfl)) ?_
              refine D0_valM rfl rfl rfl (Y_loadI 5 (und rfl) rfl rfl rfl rfl) ?_
              refine D0_val rfl rfl rfl (Y_band rfl rfl) ?_
              refine D0_val rfl rfl rfl (Y_ixa (und rfl) (siz rfl) rfl rfl (nat_lit' _) (Nat.le_of_ble_eq_true rfl)) ?_
              refine D0_valM rfl rfl rfl (Y_loadI 5 (und rfl) rfl rfl rfl rfl) ?_
              refine D0_val rfl rfl rfl (Y_ixa (und rfl) (siz rfl) rfl rfl (nat_lit' _) (Nat.le_of_ble_eq_true rfl)) ?_
              refine D0_valM rfl rfl rfl (Y_loadI 5 (und rfl) rfl rfl rfl rfl) ?_
              refine D0_val rfl rfl rfl (Y_band rfl rfl) ?_
              refine D0_val rfl rfl rfl (Y_bor rfl rfl) ?_
              refine D0_val rfl rfl rfl (Y_ixa (und rfl) (siz rfl) rfl rfl (nat_lit' _) (Nat.le_of_ble_eq_true rfl)) ?_
              refine D0_valM rfl rfl rfl (Y_loadI 5 (und rfl) rfl rfl rfl rfl) ?_
              refine D0_val rfl rfl rfl (Y_ixa (und rfl) (siz rfl) rfl rfl (nat_lit' _) (Nat.le_of_ble_eq_true rfl)) ?_
              refine D0_valM rfl rfl rfl (Y_loadI 5 (und rfl) rfl rfl rfl rfl) ?_
              refine D0_val rfl rfl rfl (Y_band rfl rfl) ?_
              refine D0_val rfl rfl rfl (Y_bor rfl rfl) ?_
              refine D0_val rfl rfl rfl (Y_badd rfl rfl) ?_
              refine D0_val rfl rfl rfl (Y_assign rfl) ?_
              refine D0_nil ?_
              refine X_seq ?_
              refine T_seq ?_
              refine T_sr ?_
              refine S_as rfl rfl rfl ?_
              refine S_nx ?_
              refine T_block ?_
              refine T_loopE (α := Nat) (fun q => q ≤ 7)
                (fun q => [(4, .pointer (some ⟨bK, 0, none⟩)), (5, .pointer (some ⟨bH, 0, none⟩)), (6, .pointer (some ⟨bO, 0, none⟩)), (7, u2), (10, .int .i64 (64 * i : Nat)), (11, .pointer (some ⟨bW, 0, none⟩)), (16, .pointer (some ⟨bV, 0, none⟩)), (17, .int .i64 r), (18, .int .u32 (T0.toNat : Nat)), (19, .int .u32 (U0.toNat : Nat)), (20, .int .i64 q)])
                (fun q => [blk bK (.cells (ints .u32 (bvl K)) 57 (0, 0)), blk bH (.cells (ints .u32 (bvl l)) 46 (0, 0)), blk bO (.cells (ints .u8 (List.replicate 32 0)) 34 (0, 0)), row .u8 (byl A) u2, blk bW (.cells (ints .u32 (bvl X)) 57 (0, 0)), blk bV (.cells (ints .u32 (bvl (SF (7 - q)))) 46 (0, 0))])
                (fun q => q) 7 (Nat.le_refl _) (by rw [hT, hU]; exact (by repeat (first | exact Env.sub_nil _ | (apply Env.sub_cons; rfl)))) (by rw [Nat.sub_self, h70]; exact Emb.idx [0, 1, 2, 3, 4, 5] rfl rfl) ?_
              intro q hq
              by_cases h6 : q = 0
              · subst h6
                rw [Nat.sub_zero, h7]
                refine T_seq ?_
                refine T_sr ?_
                refine S_mv rfl rfl rfl ?_
                refine S_val rfl rfl (Y_gtr_f rfl rfl (by decide)) ?_
                refine S_nx ?_
                refine T_cond_false rfl ?_
                refine T_exit ?_
                refine X_seq_exit ?_
                refine X_loop_exit ?_
                refine X_blk_hit rfl ?_
                refine X_seq ?_
                refine T_sr ?_
                refine S_val rfl rfl (Y_ixa (und rfl) (siz rfl) rfl rfl (nat_lit' _) (Nat.le_of_ble_eq_true rfl)) ?_
                refine S_val rfl rfl (Y_loadI 5 (und rfl) rfl rfl rfl rfl) ?_
                refine S_mv rfl rfl rfl ?_
                refine S_val rfl rfl (Y_badd rfl rfl) ?_
                refine S_val rfl rfl (Y_ixa (und rfl) (siz rfl) rfl rfl (nat_lit' _) (Nat.le_of_ble_eq_true rfl)) ?_
                refine S_storeI 5 (siz rfl) rfl rfl rfl (Nat.le_of_ble_eq_true rfl) rfl rfl ?_
                refine S_nx ?_
                refine T_region ?_
                refine S_mv rfl rfl rfl ?_
                refine S_mv rfl rfl rfl ?_
                refine S_val rfl rfl (Y_badd rfl rfl) ?_
                refine S_val rfl rfl (Y_ixa (und rfl) (siz rfl) rfl rfl (nat_lit' _) (Nat.le_of_ble_eq_true rfl)) ?_
                refine S_storeI 5 (siz rfl) rfl rfl rfl (Nat.le_of_ble_eq_true rfl) rfl rfl ?_
                refine S_nil ?_
                refine X_blk ?_
                refine X_seq ?_
                refine T_region ?_
                refine S_mv rfl rfl rfl ?_
                refine S_val rfl rfl (Y_addN rfl rfl (nat_cast _) (nat_lit' _) (by omega)) ?_
                refine S_as rfl rfl rfl ?_
                refine S_nil ?_
                refine X_loop ?_
                exact ⟨r + 1, by omega, by omega, (by repeat (first | exact Env.sub_nil _ | (apply Env.sub_cons; rfl))), by (try dsimp only); rw [hs2, hn2]; exact Emb.idx [0, 1, 2, 3, 4, 5] rfl rfl⟩
              · obtain ⟨p, rfl⟩ : ∃ p, q = p + 1 := ⟨q - 1, by omega⟩
                have e1 : SF (7 - p) = (SF (7 - (p + 1))).set (p + 1) (w0 (SF (7 - (p + 1))) p) := by
                  rw [show 7 - p = 7 - (p + 1) + 1 by omega, h7s, show 7 - (7 - (p + 1)) = p + 1 by omega, show 6 - (7 - (p + 1)) = p by omega]
                have e2 := h7l (7 - (p + 1))
                generalize hz7 : SF (7 - p) = z7 at *
                generalize SF (7 - (p + 1)) = z6 at *
                have e2 : z6.length = 8 := e2
                have e3 := bvl_w0 e2 (show p + 1 - 1 < 8 by omega)
                have hset := bvl_set z6 (p + 1) (w0 z6 p)
                rw [← e1] at hset
                rw [show w0 z6 (p + 1 - 1) = w0 z6 p from rfl] at e3
                generalize w0 z6 p = y0 at *
                clear e1 h7s h70 h7 h7l hn2 hT hU
                refine T_seq ?_
                refine T_sr ?_
                refine S_mv rfl rfl rfl ?_
                refine S_val rfl rfl (Y_gtr_t rfl rfl (by omega)) ?_
                refine S_nx ?_
                refine T_cond_true rfl ?_
                refine T_skip ?_
                refine X_seq ?_
                refine T_seq ?_
                refine T_block ?_
                refine T_region ?_
                refine S_mv rfl rfl rfl ?_
                refine S_mv rfl rfl rfl ?_
                refine S_val rfl rfl (Y_subN rfl rfl (nat_cast _) (nat_lit' _) (Nat.le_of_ble_eq_true rfl) (by omega)) ?_
                refine S_val rfl rfl (Y_ixa (und rfl) (siz rfl) rfl rfl (nat_cast _) (by omega)) ?_
                refine S_val rfl rfl (Y_loadI 5 (und rfl) rfl rfl rfl (by assumption)) ?_
                refine S_val rfl rfl (Y_ixa (und rfl) (siz rfl) rfl rfl (nat_cast _) (by omega)) ?_
                refine S_storeI 5 (siz rfl) rfl rfl rfl (by simp; omega) rfl rfl ?_
                refine S_nil ?_
                refine X_blk ?_
                refine X_seq ?_
                refine T_region ?_
                refine S_mv rfl rfl rfl ?_
                refine S_val rfl rfl (Y_subN rfl rfl (nat_cast _) (nat_lit' _) (Nat.le_of_ble_eq_true rfl) (by omega)) ?_
                refine S_as rfl rfl rfl ?_
                refine S_nil ?_
                refine X_loop ?_
                exact ⟨p, by omega, by omega, (by repeat (first | exact Env.sub_nil _ | (apply Env.sub_cons; rfl))), by (try dsimp only); rw [hz7, ← hset]; exact Emb.idx [0, 1, 2, 3, 4, 5] rfl rfl⟩
            · obtain rfl : r = 64 := by omega
              have hm : (l8 (rs K X (t8 l) 64)).length = 8 := l8_length _
              generalize l8 (rs K X (t8 l) 64) = m at *
              clear h5 hr
              refine T_seq ?_
              refine T_sr ?_
              refine S_mv rfl rfl rfl ?_
              refine S_val rfl rfl (Y_lss_f rfl rfl (by decide)) ?_
              refine S_nx ?_
              refine T_cond_false rfl ?_
              refine T_exit ?_
              refine X_seq_exit ?_
              refine X_loop_exit ?_
              refine X_blk_hit rfl ?_
              refine X_seq ?_
              refine T_sr ?_
              refine S_as rfl rfl rfl ?_
              refine S_nx ?_
              refine T_block ?_
              refine T_loopE (α := Nat) (fun q => q ≤ 8)
                (fun q => [(4, .pointer (some ⟨bK, 0, none⟩)), (5, .pointer (some ⟨bH, 0, none⟩)), (6, .pointer (some ⟨bO, 0, none⟩)), (7, u2), (10, .int .i64 (64 * i : Nat)), (16, .pointer (some ⟨bV, 0, none⟩)), (21, .int .i64 q)])
                (fun q => [blk bK (.cells (ints .u32 (bvl K)) 57 (0, 0)), blk bH (.cells (ints .u32 (bvl (adds l m q))) 46 (0, 0)), blk bO (.cells (ints .u8 (List.replicate 32 0)) 34 (0, 0)), row .u8 (byl A) u2, blk bV (.cells (ints .u32 (bvl m)) 46 (0, 0))])
                (fun q => 8 - q) 0 (Nat.zero_le _) (by repeat (first | exact Env.sub_nil _ | (apply Env.sub_cons; rfl))) (by rw [adds_zero]; exact Emb.idx [0, 1, 2, 3, 5] rfl rfl) ?_
              intro q hq
              have hal : (adds l m q).length = 8 := by rw [adds_length, hsl]
              by_cases h7 : q < 8
              · have ha := bvl_w0 hal h7
                have hmm := bvl_w0 hm h7
                have hn := adds_succ l m q
                have hset := bvl_set (adds l m q) q (w0 (adds l m q) q + w0 m q)
                rw [← hn] at hset
                clear hn
                generalize w0 (adds l m q) q = y0 at *
                generalize w0 m q = z0 at *
                generalize hy1 : adds l m (q + 1) = y1 at *
                generalize adds l m q = n at *
                refine T_seq ?_
                refine T_sr ?_
                refine S_mv rfl rfl rfl ?_
                refine S_val rfl rfl (Y_lss_t rfl rfl (by omega)) ?_
                refine S_nx ?_
                refine T_cond_true rfl ?_
                refine T_skip ?_
                refine X_seq ?_
                refine T_seq ?_
                refine T_block ?_
                refine T_draw (by kernel_rfl) (by kernel_rfl) rfl ?_
                refine D0_val rfl rfl rfl (Y_move rfl) ?_
                refine D0_val rfl rfl rfl (Y_move rfl) ?_
                refine D0_val rfl rfl rfl (Y_ixa (und rfl) (siz rfl) rfl rfl (nat_cast _) (by assumption)) ?_
                refine D0_valM rfl rfl rfl (Y_loadI 1 (und rfl) rfl rfl rfl (by assumption)) ?_
                refine D0_val rfl rfl rfl (Y_move rfl) ?_
                refine D0_val rfl rfl rfl (Y_ixa (und rfl) (siz rfl) rfl rfl (nat_cast _) (by assumption)) ?_
                refine D0_valM rfl rfl rfl (Y_loadI 4 (und rfl) rfl rfl rfl (by assumption)) ?_
                refine D0_val rfl rfl rfl (Y_badd rfl rfl) ?_
                refine D0_val rfl rfl rfl (Y_ixa (und rfl) (siz rfl) rfl rfl (nat_cast _) (by assumption)) ?_
                refine D0_storeI 1 (by kernel_rfl) (siz rfl) rfl rfl rfl (by simp; omega) rfl rfl ?_
                refine D0_nil ?_
                refine X_blk ?_
                refine X_seq ?_
                refine T_region ?_
                refine S_mv rfl rfl rfl ?_
                refine S_val rfl rfl (Y_addN rfl rfl (nat_cast _) (nat_lit' _) (by omega)) ?_
                refine S_as rfl rfl rfl ?_
                refine S_nil ?_
                refine X_loop ?_
                exact ⟨q + 1, by omega, by omega, (by repeat (first | exact Env.sub_nil _ | (apply Env.sub_cons; rfl))), by (try dsimp only); rw [hy1, ← hset]; exact Emb.idx [0, 1, 2, 3, 4] rfl rfl⟩
              · obtain rfl : q = 8 := by omega
                rw [← hsn]
                clear hsn h7 hq
                refine T_seq ?_
                refine T_sr ?_
                refine S_mv rfl rfl rfl ?_
                refine S_val rfl rfl (Y_lss_f rfl rfl (by decide)) ?_
                refine S_nx ?_
                refine T_cond_false rfl ?_
                refine T_exit ?_
                refine X_seq_exit ?_
                refine X_loop_exit ?_
                refine X_blk_hit rfl ?_
                refine X_blk ?_
                refine X_seq ?_
                refine T_region ?_
                refine S_mv rfl rfl rfl ?_
                refine S_val rfl rfl (Y_addN rfl rfl (nat_cast _) (nat_lit' _) (by omega)) ?_
                refine S_as rfl rfl rfl ?_
                refine S_nil ?_
                refine X_loop ?_
                exact ⟨i + 1, by omega, by omega, (by repeat (first | exact Env.sub_nil _ | (apply Env.sub_cons; rfl))), by (try dsimp only); rw [hs1]; exact Emb.idx [0, 1, 2, 3] rfl rfl⟩
      · obtain rfl : i = nb := by omega
        generalize sums K h0 A i = s3 at *
        clear h hi hhl hh
        refine T_seq ?_
        refine T_sr ?_
        refine S_mv rfl rfl rfl ?_
        refine S_mv rfl rfl rfl ?_
        refine S_val rfl rfl (Y_lenV rfl (und rfl) rfl (fun _ hs => hs.rowRd 3 rfl) (by assumption)) ?_
        refine S_val rfl rfl (Y_lss_f rfl rfl (by omega)) ?_
        refine S_nx ?_
        refine T_cond_false rfl ?_
        refine T_exit ?_
        refine X_seq_exit ?_
        refine X_loop_exit ?_
        refine X_blk_hit rfl ?_
        refine X_seq ?_
        refine T_sr ?_
        refine S_val rfl rfl (Y_build (und rfl) (siz rfl) (zer rfl) rfl rfl) ?_
        refine S_allocA (zer rfl) rfl rfl fun _ => ?_
        refine S_storeAI 4 (siz rfl) rfl rfl rfl rfl rfl rfl ?_
        refine S_nx ?_
        refine T_seq ?_
        refine T_sr ?_
        refine S_as rfl rfl rfl ?_
        refine S_nx ?_
        refine T_block ?_
        rename_i b4
        refine T_loopE (α := Nat) (fun q => q ≤ 32)
          (fun q => [(5, .pointer (some ⟨bH, 0, none⟩)), (6, .pointer (some ⟨bO, 0, none⟩)), (22, .pointer (some ⟨b4, 0, none⟩)), (23, .int .i64 q)])
          (fun q => [blk bK (.cells (ints .u32 (bvl K)) 57 (0, 0)), blk bH (.cells (ints .u32 (bvl s3)) 46 (0, 0)), blk bO (.cells (ints .u8 (List.replicate 32 0)) 34 (0, 0)), row .u8 (byl A) u2, blk b4 (.cells (ints .u8 (byl (outs s3 q))) 34 (0, 0))])
          (fun q => 32 - q) 0 (Nat.zero_le _) (by repeat (first | exact Env.sub_nil _ | (apply Env.sub_cons; rfl))) (by rw [outs_zero, byl_zero]; exact Emb.idx [0, 1, 2, 3, 4] rfl rfl) ?_
        intro q hq
        have hol := outs_length s3 q
        by_cases h32 : q < 32
        · have hz := bvl_w0 hsl (show q / 4 < 8 by omega)
          have hset := byl_set (outs s3 q) q (((w0 s3 (q / 4)) >>> (24 - q % 4 * 8)).setWidth 8)
          rw [← outs_succ, BitVec.toNat_setWidth, Nat.mul_comm (q % 4) 8] at hset
          generalize w0 s3 (q / 4) = z at *
          generalize hy1 : outs s3 (q + 1) = y1 at *
          generalize outs s3 q = y0 at *
          refine T_seq ?_
          refine T_sr ?_
          refine S_mv rfl rfl rfl ?_
          refine S_val rfl rfl (Y_lss_t rfl rfl (by omega)) ?_
          refine S_nx ?_
          refine T_cond_true rfl ?_
          refine T_skip ?_
          refine X_seq ?_
          refine T_seq ?_
          refine T_block ?_
          refine T_region ?_
          refine S_mv rfl rfl rfl ?_
          refine S_mv rfl rfl rfl ?_
          refine S_val rfl rfl (Y_quoN rfl rfl (nat_cast _) (nat_lit' _) (Nat.succ_ne_zero _) (by first | with_reducible exact xi64 (by omega) | with_reducible exact x64 (by omega) | with_reducible exact x8 (by omega) | with_reducible exact x32 (by omega))) ?_
          refine S_val rfl rfl (Y_ixa (und rfl) (siz rfl) rfl rfl (nat_cast _) (by omega)) ?_
          refine S_val rfl rfl (Y_loadI 1 (und rfl) rfl rfl rfl (by assumption)) ?_
          refine S_mv rfl rfl rfl ?_
          refine S_val rfl rfl (Y_remN rfl rfl (nat_cast _) (nat_lit' _) (Nat.succ_ne_zero _)) ?_
          refine S_val rfl rfl (Y_mulN rfl rfl (nat_lit' _) (nat_cast _) (by omega)) ?_
          refine S_val rfl rfl (Y_subN rfl rfl (nat_lit' _) (nat_cast _) (by omega) (Nat.le_of_ble_eq_true rfl)) ?_
          refine S_val rfl rfl (Y_bshr rfl rfl (nat_cast _)) ?_
          refine S_val rfl rfl (Y_remN rfl rfl (nat_cast _) (nat_lit' _) (Nat.succ_ne_zero _)) ?_
          refine S_val rfl rfl (Y_conv (und rfl) (und rfl) rfl (wu8 (by omega) (by omega))) ?_
          refine S_val rfl rfl (Y_ixa (und rfl) (siz rfl) rfl rfl (nat_cast _) (by assumption)) ?_
          refine S_storeI 4 (siz rfl) rfl rfl rfl (by simp; omega) rfl rfl ?_
          refine S_nil ?_
          refine X_blk ?_
          refine X_seq ?_
          refine T_region ?_
          refine S_mv rfl rfl rfl ?_
          refine S_val rfl rfl (Y_addN rfl rfl (nat_cast _) (nat_lit' _) (by omega)) ?_
          refine S_as rfl rfl rfl ?_
          refine S_nil ?_
          refine X_loop ?_
          exact ⟨q + 1, by omega, by omega, (by repeat (first | exact Env.sub_nil _ | (apply Env.sub_cons; rfl))), by (try dsimp only); rw [hy1, ← hset]; exact Emb.idx [0, 1, 2, 3, 4] rfl rfl⟩
        · obtain rfl : q = 32 := by omega
          generalize outs s3 32 = Z at *
          have hz : (byl Z).length = 32 := by rw [byl_length, hol]
          have hz0 : (List.replicate 32 (0 : Int)).length = 32 := List.length_replicate
          refine T_seq ?_
          refine T_sr ?_
          refine S_mv rfl rfl rfl ?_
          refine S_val rfl rfl (Y_lss_f rfl rfl (by decide)) ?_
          refine S_nx ?_
          refine T_cond_false rfl ?_
          refine T_exit ?_
          refine X_seq_exit ?_
          refine X_loop_exit ?_
          refine X_blk_hit rfl ?_
          refine X_seq ?_
          refine T_sr ?_
          refine S_val rfl rfl (Y_loadAI 4 (und rfl) rfl rfl rfl (siz rfl) (by assumption)) ?_
          refine S_storeAI 2 (siz rfl) rfl rfl rfl rfl (by assumption) rfl ?_
          refine S_nx ?_
          refine T_ret ?_
          ((first | refine X_fin_ret ?_ | refine X_fin ?_); exact ⟨[_], [], .cons (.agg 2 rfl (und rfl) rfl rfl (by rw [ints_size, hz]; exact siz rfl)) .nil, Emb.nil _, rfl, rfl⟩)
    · obtain ⟨i, rfl⟩ : ∃ i, j = i + 1 := ⟨j - 1, by omega⟩
      rw [show (((i + 1 : Nat) : Int) - 1) = (i : Int) by omega]
      have hAL := hAl (8 - (i + 1))
      have hz : AF (8 - i) = AF (8 - (i + 1)) ++ [BitVec.ofNat 8 (bs.length * 8 / 2 ^ (8 * i))] := by
        rw [show 8 - i = 8 - (i + 1) + 1 by omega, hAs, show 7 - (8 - (i + 1)) = i by omega]
      clear hAs hAl
      generalize hA8 : AF (8 - i) = A8 at *
      generalize AF (8 - (i + 1)) = A7 at *
      have hAb : (byl A7).length = bs.length + 1 + pk + (8 - (i + 1)) := by rw [byl_length, hAL]
      have hAb2 := hAL
      have he : byl A8 = byl A7 ++ [((bs.length * 8 / 2 ^ (8 * i) % 256 : Nat) : Int)] := by
        rw [hz, ← byl_append]
        show _ ++ [(((BitVec.ofNat 8 _).toNat : Nat) : Int)] = _
        rw [BitVec.toNat_ofNat]
      clear hz hAL
      refine T_seq ?_
      refine T_sr ?_
      refine S_mv rfl rfl rfl ?_
      refine S_val rfl rfl (Y_geq_t rfl rfl (by omega)) ?_
      refine S_nx ?_
      refine T_cond_true rfl ?_
      refine T_skip ?_
      refine X_seq ?_
      refine T_seq ?_
      refine T_block ?_
      refine T_region ?_
      refine S_mv rfl rfl rfl ?_
      refine S_mv rfl rfl rfl ?_
      refine S_mv rfl rfl rfl ?_
      refine S_val rfl rfl (Y_mulN rfl rfl (nat_lit' _) (nat_cast _) (by omega)) ?_
      refine S_val rfl rfl (Y_shrN rfl rfl (nat_cast _) (nat_cast _) (by simp only [IntKind.bits]; omega)) ?_
      refine S_val rfl rfl (Y_remN rfl rfl (nat_cast _) (nat_lit' _) (Nat.succ_ne_zero _)) ?_
      refine S_val rfl rfl (Y_conv (und rfl) (und rfl) rfl (wu8 (by omega) (by omega))) ?_
      refine S_sliceR (und rfl) (siz rfl) (zer rfl) rfl rfl rfl rfl fun _ => ?_
      refine S_append 3 rfl (und rfl) (und rfl) (siz rfl) (byt rfl) (zer rfl) rfl rfl rfl (fun _ hs => hs.rowRd 4 rfl) (by simp; omega) rfl rfl rfl fun _ => ?_
      refine S_as rfl rfl rfl ?_
      refine S_nil ?_
      refine X_blk ?_
      refine X_seq ?_
      refine T_region ?_
      refine S_mv rfl rfl rfl ?_
      refine S_val rfl rfl (Y_sub rfl rfl (wi64 (by omega) (by omega))) ?_
      refine S_as rfl rfl rfl ?_
      refine S_nil ?_
      refine X_loop ?_
      exact ⟨(i, _), by dsimp only; omega, by dsimp only; omega, (by repeat (first | exact Env.sub_nil _ | (apply Env.sub_cons; rfl))), by dsimp only; rw [hA8, he]; exact Emb.idx [0, 1, 2, 3] rfl rfl⟩
end Go.Proofs.YtjolmphkmfbpbaaDoor
/- Package modexp: numbers to the base 2^32; the second half. -/
namespace Go.Proofs.YtjolmphkmfbpbaaDoor
open Go.RowKit
set_option maxRecDepth 20000
set_option maxHeartbeats 4000000
theorem put32_lt {b p l t N : Nat} (hb : 0 < b) (hp : p < b ^ N) (hl : l < b) (ht : t < N) : p - p / b ^ t % b * b ^ t + l * b ^ t < b ^ N := by
  have h1 := split_at b t p
  have h2 : p / b ^ (t + 1) < b ^ (N - (t + 1)) := Nat.div_lt_of_lt_mul (by rw [← Nat.pow_add, show t + 1 + (N - (t + 1)) = N by omega]; exact hp)
  have h3 : p % b ^ t < b ^ t := Nat.mod_lt _ (Nat.pow_pos hb)
  have h4 : (p / b ^ (t + 1) + 1) * b ^ (t + 1) ≤ b ^ (N - (t + 1)) * b ^ (t + 1) := Nat.mul_le_mul_right _ h2
  rw [← Nat.pow_add, show N - (t + 1) + (t + 1) = N by omega, Nat.add_mul, Nat.one_mul] at h4
  have h5 : l * b ^ t + b ^ t ≤ b ^ (t + 1) := by
    have := Nat.mul_le_mul_right (b ^ t) hl
    rw [Nat.succ_mul] at this
    rwa [Nat.pow_succ, Nat.mul_comm _ b]
  clear h2
  generalize p % b ^ t = g at *
  generalize p / b ^ (t + 1) * b ^ (t + 1) = i at *
  generalize p / b ^ t % b * b ^ t = h at *
  omega
theorem mtimes_any (x y n m : Nat) (hx : x < 4294967296 ^ n) (hy : y < 4294967296 ^ m) (hn : n ≤ 400000) (hm : m ≤ 400000) (v u : Value) (w : World) (hv : Rd w v .u32 (dl 4294967296 n x)) (hu : Rd w u .u32 (dl 4294967296 m y)) :
    Fn Tryd.prog 41 #[v, u] w fun r N => N = [row .u32 (dl 4294967296 (tr (x * y)) (x * y)) r] := by
  refine Fn_of (args := [v, u]) Tryd.func41 rfl Tryd.ntmps41 Tryd.results41 (by simp) ?_
  refine T_sr ?_
  refine S_as rfl rfl rfl ?_
  refine S_nx ?_
  refine T_sr ?_
  refine S_mv rfl rfl rfl ?_
  refine S_val rfl rfl (Y_lenV rfl (und rfl) rfl (fun _ hs => Rd.st (by assumption) hs) (dl_length _ _ _)) ?_
  refine S_mv rfl rfl rfl ?_
  refine S_val rfl rfl (Y_lenV rfl (und rfl) rfl (fun _ hs => Rd.st (by assumption) hs) (dl_length _ _ _)) ?_
  refine S_val rfl rfl (Y_addN rfl rfl (nat_cast _) (nat_cast _) (by omega)) ?_
  refine S_makeR (und rfl) (siz rfl) (byt rfl) (zer rfl) rfl rfl (nat_cast _) (by omega) rfl rfl rfl fun _ => ?_
  refine S_as rfl rfl rfl ?_
  refine S_nx ?_
  refine T_seq ?_
  refine T_sr ?_
  refine S_mv rfl rfl rfl ?_
  refine S_val rfl rfl (Y_lenV rfl (und rfl) rfl (fun _ hs => Rd.st (by assumption) hs) (dl_length _ _ _)) ?_
  refine S_mv rfl rfl rfl ?_
  refine S_nx ?_
  refine T_block ?_
  rename_i vo
  refine T_loop (α := Nat × Nat) (fun a => a.1 ≤ n ∧ a.2 = x % 4294967296 ^ a.1 * y)
    (fun a => [(0, v), (1, u), (5, vo), (18, v), (19, .int .i64 n), (20, .int .i64 a.1)])
    (fun a => [row .u32 (dl 4294967296 (n + m) a.2) vo])
    (fun a => n - a.1) (0, 0) (by simp [Nat.mod_one]) (by repeat (first | exact Env.sub_nil _ | (apply Env.sub_cons; rfl))) [] (by dsimp only; rw [dl_zero]; rfl) ?_
  rintro ⟨i, o⟩ ⟨hi, ho⟩
  dsimp only at hi ho ⊢
  refine T_sh 0 rfl fun hsh => ?_
  rw [dl_length] at hsh
  by_cases h : i < n
  · have hxi := dig32_lt x i
    have ho2 : o < 4294967296 ^ (i + m) := by
      rw [ho, Nat.pow_add]
      exact Nat.mul_lt_mul'' (Nat.mod_lt _ (Nat.pow_pos (by omega))) hy
    have hfin : ∀ p c, p + c * 4294967296 ^ (i + m) = o + x / 4294967296 ^ i % 4294967296 * (y % 4294967296 ^ m) * 4294967296 ^ i → p + c * 4294967296 ^ (i + m) = x % 4294967296 ^ (i + 1) * y := fun p c hp => by
      rw [hp, Nat.mod_eq_of_lt hy, ho, mod_pow_succ', Nat.add_mul, Nat.mul_right_comm]
    clear hx ho
    refine T_sr ?_
    refine S_val rfl rfl (Y_lss_t rfl rfl (by omega)) ?_
    refine S_nx ?_
    refine T_seq ?_
    refine T_cond_true rfl ?_
    refine T_skip ?_
    refine X_seq ?_
    refine T_seq ?_
    refine T_block ?_
    refine T_sr ?_
    refine S_mv rfl rfl rfl ?_
    refine S_val rfl rfl (Y_ixV (und rfl) (siz rfl) rfl rfl (fun _ hs => Rd.st (by assumption) hs) (nat_cast _) (dl_lt (by assumption))) ?_
    refine S_val rfl rfl (Y_loadV (und rfl) rfl rfl (fun _ hs => Rd.st (by assumption) hs) (dl_get (by assumption))) ?_
    refine S_as rfl rfl rfl ?_
    refine S_as rfl rfl rfl ?_
    refine S_nx ?_
    refine T_sr ?_
    refine S_as rfl rfl rfl ?_
    refine S_nx ?_
    refine T_seq ?_
    refine T_sr ?_
    refine S_mv rfl rfl rfl ?_
    refine S_val rfl rfl (Y_lenV rfl (und rfl) rfl (fun _ hs => Rd.st (by assumption) hs) (dl_length _ _ _)) ?_
    refine S_mv rfl rfl rfl ?_
    refine S_nx ?_
    refine T_block ?_
    generalize hX : x / 4294967296 ^ i % 4294967296 = xi at *
    clear hX
    refine T_loop (α := Nat × Nat × Nat) (fun a => a.1 ≤ m ∧ a.2.1 < 4294967296 ∧ a.2.2 < 4294967296 ^ (i + m) ∧ a.2.2 + a.2.1 * 4294967296 ^ (i + a.1) = o + xi * (y % 4294967296 ^ a.1) * 4294967296 ^ i)
      (fun a => [(0, v), (1, u), (5, vo), (6, .int .i64 i), (7, .int .u32 xi), (8, .int .u64 a.2.1), (18, v), (19, .int .i64 n), (20, .int .i64 i), (25, u), (26, .int .i64 m), (27, .int .i64 a.1)])
      (fun a => [row .u32 (dl 4294967296 (n + m) a.2.2) vo])
      (fun a => m - a.1) (0, 0, o) ⟨by dsimp only; omega, by dsimp only; omega, ho2, by simp [Nat.mod_one]⟩ (by repeat (first | exact Env.sub_nil _ | (apply Env.sub_cons; rfl))) [] rfl ?_
    rintro ⟨j, c, p⟩ ⟨hj, hc, hpl, hp⟩
    dsimp only at hj hc hpl hp ⊢
    by_cases h1 : j < m
    · have hyj := dig32_lt y j
      have hpj := dig32_lt p (i + j)
      have hxy : xi * (y / 4294967296 ^ j % 4294967296) ≤ 4294967295 * 4294967295 := Nat.mul_le_mul (by omega) (by omega)
      have hb : i + j < n + m := by omega
      have hstep : (p - p / 4294967296 ^ (i + j) % 4294967296 * 4294967296 ^ (i + j) + (xi * (y / 4294967296 ^ j % 4294967296) + p / 4294967296 ^ (i + j) % 4294967296 + c) % 4294967296 * 4294967296 ^ (i + j)) + (xi * (y / 4294967296 ^ j % 4294967296) + p / 4294967296 ^ (i + j) % 4294967296 + c) / 4294967296 * 4294967296 ^ (i + (j + 1)) = o + xi * (y % 4294967296 ^ (j + 1)) * 4294967296 ^ i := by
        have hs := split_at 4294967296 (i + j) p
        have hy2 := mod_pow_succ' y 4294967296 j
        rw [hy2]
        generalize y / 4294967296 ^ j % 4294967296 = yj at *
        generalize p / 4294967296 ^ (i + j) % 4294967296 = pj at *
        have hP : (4294967296 : Nat) ^ (i + (j + 1)) = 4294967296 * 4294967296 ^ (i + j) := by rw [← Nat.add_assoc, Nat.pow_succ, Nat.mul_comm]
        have hQ : xi * (y % 4294967296 ^ j + yj * 4294967296 ^ j) * 4294967296 ^ i = xi * (y % 4294967296 ^ j) * 4294967296 ^ i + xi * yj * 4294967296 ^ (i + j) := by
          rw [Nat.mul_add, Nat.add_mul, ← Nat.mul_assoc xi yj, Nat.mul_assoc (xi * yj), ← Nat.pow_add, Nat.add_comm j i]
        rw [hP, hQ, ← Nat.mul_assoc]
        generalize xi * yj = m at *
        generalize hl : (m + pj + c) % 4294967296 = l2
        generalize hcc : (m + pj + c) / 4294967296 = c2
        have key : l2 + c2 * 4294967296 = m + pj + c := by omega
        have k2 := congrArg (· * 4294967296 ^ (i + j)) key
        simp only [Nat.add_mul] at k2
        omega
      have hput := put32_lt (l := (xi * (y / 4294967296 ^ j % 4294967296) + p / 4294967296 ^ (i + j) % 4294967296 + c) % 4294967296) (by omega) hpl (Nat.mod_lt _ (by omega)) (show i + j < i + m by omega)
      have hset := dl_put (b := 4294967296) (n := n + m) (x := p) (i := i + j) (d := (xi * (y / 4294967296 ^ j % 4294967296) + p / 4294967296 ^ (i + j) % 4294967296 + c) % 4294967296) (by omega) (Nat.mod_lt _ (by omega))
      clear hp hpl hfin ho2 hy
      generalize p - p / 4294967296 ^ (i + j) % 4294967296 * 4294967296 ^ (i + j) + (xi * (y / 4294967296 ^ j % 4294967296) + p / 4294967296 ^ (i + j) % 4294967296 + c) % 4294967296 * 4294967296 ^ (i + j) = p2 at *
      refine T_sr ?_
      refine S_val rfl rfl (Y_lss_t rfl rfl (by omega)) ?_
      refine S_nx ?_
      refine T_seq ?_
      refine T_cond_true rfl ?_
      refine T_skip ?_
      refine X_seq ?_
      refine T_seq ?_
      refine T_block ?_
      refine T_sr ?_
      refine S_mv rfl rfl rfl ?_
      refine S_val rfl rfl (Y_ixV (und rfl) (siz rfl) rfl rfl (fun _ hs => Rd.st (by assumption) hs) (nat_cast _) (dl_lt (by assumption))) ?_
      refine S_val rfl rfl (Y_loadV (und rfl) rfl rfl (fun _ hs => Rd.st (by assumption) hs) (dl_get (by assumption))) ?_
      refine S_as rfl rfl rfl ?_
      refine S_as rfl rfl rfl ?_
      refine S_nx ?_
      refine T_sr ?_
      refine S_mv rfl rfl rfl ?_
      refine S_val rfl rfl (Y_conv (und rfl) (und rfl) rfl (wu64 (by omega) (by omega))) ?_
      refine S_mv rfl rfl rfl ?_
      refine S_val rfl rfl (Y_conv (und rfl) (und rfl) rfl (wu64 (by omega) (by omega))) ?_
      refine S_val rfl rfl (Y_mulU rfl rfl (nat_cast _) (nat_cast _) rfl (by simp only [IntKind.bits]; omega)) ?_
      refine S_mv rfl rfl rfl ?_
      refine S_mv rfl rfl rfl ?_
      refine S_mv rfl rfl rfl ?_
      refine S_val rfl rfl (Y_addN rfl rfl (nat_cast _) (nat_cast _) (by omega)) ?_
      refine S_val rfl rfl (Y_ixV (und rfl) (siz rfl) rfl rfl (fun _ hs => hs.rowRd 0 rfl) (nat_cast _) (dl_lt (by assumption))) ?_
      refine S_val rfl rfl (Y_loadV (und rfl) rfl rfl (fun _ hs => hs.rowRd 0 rfl) (dl_get (by assumption))) ?_
      refine S_val rfl rfl (Y_conv (und rfl) (und rfl) rfl (wu64 (by omega) (by omega))) ?_
      refine S_val rfl rfl (Y_addU rfl rfl (nat_cast _) (nat_cast _) rfl (by simp only [IntKind.bits]; omega)) ?_
      refine S_mv rfl rfl rfl ?_
      refine S_val rfl rfl (Y_addU rfl rfl (nat_cast _) (nat_cast _) rfl (by simp only [IntKind.bits]; omega)) ?_
      refine S_as rfl rfl rfl ?_
      refine S_nx ?_
      refine T_sr ?_
      refine S_mv rfl rfl rfl ?_
      refine S_mv rfl rfl rfl ?_
      refine S_mv rfl rfl rfl ?_
      refine S_val rfl rfl (Y_addN rfl rfl (nat_cast _) (nat_cast _) (by omega)) ?_
      refine S_mv rfl rfl rfl ?_
      refine S_val rfl rfl (Y_conv (und rfl) (und rfl) rfl wu32n) ?_
      refine S_val rfl rfl (Y_ixV (und rfl) (siz rfl) rfl rfl (fun _ hs => hs.rowRd 0 rfl) (nat_cast _) (dl_lt (by assumption))) ?_
      refine S_storeR 0 (siz rfl) rfl rfl rfl (dl_lt (by assumption)) rfl ?_
      refine S_nx ?_
      refine T_region ?_
      refine S_mv rfl rfl rfl ?_
      refine S_val rfl rfl (Y_shrN rfl rfl (nat_cast _) (nat_lit' _) (by simp only [IntKind.bits]; omega)) ?_
      refine S_as rfl rfl rfl ?_
      refine S_nil ?_
      refine X_blk ?_
      refine X_seq ?_
      refine T_region ?_
      refine S_val rfl rfl (Y_addN rfl rfl (nat_cast _) (nat_lit' _) (by omega)) ?_
      refine S_mv rfl rfl rfl ?_
      refine S_nil ?_
      refine X_loop ?_
      exact ⟨(j + 1, _, p2), ⟨by dsimp only; omega, by dsimp only; omega, hput, hstep⟩, by dsimp only; omega, (by repeat (first | exact Env.sub_nil _ | (apply Env.sub_cons; rfl))), [], by dsimp only; rw [← hset]; rfl⟩
    · obtain rfl : j = m := by omega
      have hsum := hfin p c hp
      have hz : p / 4294967296 ^ (i + j) % 4294967296 = 0 := by rw [Nat.div_eq_of_lt hpl]
      have hset := dl_put (b := 4294967296) (n := n + j) (x := p) (i := i + j) (d := c) (by omega) hc
      rw [hz, Nat.zero_mul, Nat.sub_zero, hsum] at hset
      have hb : i + j < n + j := by omega
      clear hp hpl hfin ho2 hy hsum hz
      refine T_sr ?_
      refine S_val rfl rfl (Y_lss_f rfl rfl (by omega)) ?_
      refine S_nx ?_
      refine T_seq ?_
      refine T_cond_false rfl ?_
      refine T_exit ?_
      refine X_seq_exit ?_
      refine X_loop_exit ?_
      refine X_blk_hit rfl ?_
      refine X_seq ?_
      refine T_region ?_
      refine S_mv rfl rfl rfl ?_
      refine S_mv rfl rfl rfl ?_
      refine S_mv rfl rfl rfl ?_
      refine S_val rfl rfl (Y_lenV rfl (und rfl) rfl (fun _ hs => Rd.st (by assumption) hs) (dl_length _ _ _)) ?_
      refine S_val rfl rfl (Y_addN rfl rfl (nat_cast _) (nat_cast _) (by omega)) ?_
      refine S_mv rfl rfl rfl ?_
      refine S_val rfl rfl (Y_conv (und rfl) (und rfl) rfl (wu32 (by omega) (by omega))) ?_
      refine S_val rfl rfl (Y_ixV (und rfl) (siz rfl) rfl rfl (fun _ hs => hs.rowRd 0 rfl) (nat_cast _) (dl_lt (by assumption))) ?_
      refine S_storeR 0 (siz rfl) rfl rfl rfl (dl_lt (by assumption)) rfl ?_
      refine S_nil ?_
      refine X_blk ?_
      refine X_seq ?_
      refine T_region ?_
      refine S_val rfl rfl (Y_addN rfl rfl (nat_cast _) (nat_lit' _) (by omega)) ?_
      refine S_mv rfl rfl rfl ?_
      refine S_nil ?_
      refine X_loop ?_
      exact ⟨(i + 1, x % 4294967296 ^ (i + 1) * y), ⟨by dsimp only; omega, rfl⟩, by dsimp only; omega, (by repeat (first | exact Env.sub_nil _ | (apply Env.sub_cons; rfl))), [], by dsimp only; rw [← hset]; rfl⟩
  · obtain rfl : i = n := by omega
    have : o = x * y := by rw [ho, Nat.mod_eq_of_lt hx]
    subst this
    have hxy : x * y < 4294967296 ^ (i + m) := by rw [Nat.pow_add]; exact Nat.mul_lt_mul'' hx hy
    have htr := tr_le hxy
    refine T_sr ?_
    refine S_val rfl rfl (Y_lss_f rfl rfl (by omega)) ?_
    refine S_nx ?_
    refine T_seq ?_
    refine T_cond_false rfl ?_
    refine T_exit ?_
    refine X_seq_exit ?_
    refine X_loop_exit ?_
    refine X_blk_hit rfl ?_
    refine X_seq ?_
    refine T_sr ?_
    refine S_mv rfl rfl rfl ?_
    refine S_callV rfl rfl (bod rfl) (fun w hs => trim_any (x * y) _ hxy (by omega) vo _ (by first | exact hs.rowRd 0 rfl | exact hs.rowRd 1 rfl | exact hs.rowRd 2 rfl | exact hs.rowRd 3 rfl | exact hs.rowRd 4 rfl | exact hs.rowRd 5 rfl | exact hs.rowRd 6 rfl | exact hs.rowRd 7 rfl | exact hs.rowRd 8 rfl | exact hs.rowRd 9 rfl | exact hs.rowRd 10 rfl | exact hs.rowRd 11 rfl | exact hs.rowRd 12 rfl | exact hs.rowRd 13 rfl | exact Rd.st (by assumption) hs)) rfl rfl ?_
    refine S_conv 0 rfl (fun _ hr => hr.trim htr) ?_
    refine S_as rfl rfl rfl ?_
    refine S_nx ?_
    refine T_ret ?_
    ((first | refine X_fin_ret ?_ | refine X_fin ?_); exact ⟨[_], [_], .cons (.tmp rfl) .nil, Emb.one 0 rfl, rfl⟩)
theorem dbl_step (x b i c B : Nat) (hB : 0 < B) (hc : c = (2 * x + b) / B ^ i - 2 * (x / B ^ i)) (hle : 2 * (x / B ^ i) ≤ (2 * x + b) / B ^ i) :
    (2 * x + b) / B ^ i % B = (2 * (x / B ^ i % B) + c) % B ∧ (2 * (x / B ^ i % B) + c) / B = (2 * x + b) / B ^ (i + 1) - 2 * (x / B ^ (i + 1)) ∧ 2 * (x / B ^ (i + 1)) ≤ (2 * x + b) / B ^ (i + 1) := by
  have e : (2 * x + b) / B ^ i = 2 * (x / B ^ i) + c := by omega
  rw [Nat.pow_succ, ← Nat.div_div_eq_div_mul, ← Nat.div_div_eq_div_mul, e]
  generalize x / B ^ i = q
  have h := Nat.div_add_mod q B
  have e2 : 2 * q + c = (2 * (q % B) + c) + 2 * (q / B) * B := by
    have : 2 * (q / B) * B = 2 * (B * (q / B)) := by rw [Nat.mul_assoc, Nat.mul_comm B]
    omega
  refine ⟨by rw [e2, Nat.add_mul_mod_self_right], ?_, ?_⟩
  · rw [e2, Nat.add_mul_div_right _ _ hB]
    generalize (2 * (q % B) + c) / B = z
    generalize q / B = y
    omega
  · rw [e2, Nat.add_mul_div_right _ _ hB]
    generalize (2 * (q % B) + c) / B = z
    generalize q / B = y
    omega
theorem dbl_or {d c : Nat} (hd : d < 4294967296) (hc : c < 2) : (d * 2 ^ 1 % 4294967296 ||| c) = (2 * d + c) % 4294967296 := by
  have e : d * 2 ^ 1 % 4294967296 = 2 ^ 1 * (d % 2147483648) := by omega
  rw [e, ← Nat.two_pow_add_eq_or_of_lt (by simpa using hc)]
  omega
theorem double_any (x m b : Nat) (hx : x < 4294967296 ^ m) (hb : b < 2) (hm : m ≤ 900000) (v : Value) (w : World) (hr : Rd w v .u32 (dl 4294967296 m x)) :
    Fn Tryd.prog 65 #[v, .int .u32 b] w fun u N => N = [row .u32 (dl 4294967296 (tr (2 * x + b)) (2 * x + b)) u] := by
  have hz : 2 * x + b < 4294967296 ^ (m + 1) := by
    rw [Nat.pow_succ]
    omega
  have htr := tr_le hz
  refine Fn_of (args := [v, .int .u32 b]) Tryd.func65 rfl Tryd.ntmps65 Tryd.results65 (by simp) ?_
  refine T_sr ?_
  refine S_as rfl rfl rfl ?_
  refine S_nx ?_
  refine T_sr ?_
  refine S_mv rfl rfl rfl ?_
  refine S_val rfl rfl (Y_lenV rfl (und rfl) rfl (fun _ hs => Rd.st (by assumption) hs) (dl_length _ _ _)) ?_
  refine S_val rfl rfl (Y_addN rfl rfl (nat_cast _) (nat_lit' _) (by omega)) ?_
  refine S_makeR (und rfl) (siz rfl) (byt rfl) (zer rfl) rfl rfl (nat_cast _) (by omega) rfl rfl rfl fun _ => ?_
  refine S_as rfl rfl rfl ?_
  refine S_nx ?_
  refine T_seq ?_
  refine T_sr ?_
  refine S_mv rfl rfl rfl ?_
  refine S_val rfl rfl (Y_lenV rfl (und rfl) rfl (fun _ hs => Rd.st (by assumption) hs) (dl_length _ _ _)) ?_
  refine S_mv rfl rfl rfl ?_
  refine S_nx ?_
  refine T_block ?_
  rename_i vo
  refine T_loop (α := Nat × Nat) (fun a => a.1 ≤ m ∧ a.2 < 2 ∧ a.2 = (2 * x + b) / 4294967296 ^ a.1 - 2 * (x / 4294967296 ^ a.1) ∧ 2 * (x / 4294967296 ^ a.1) ≤ (2 * x + b) / 4294967296 ^ a.1)
    (fun a => [(0, v), (1, .int .u32 a.2), (5, vo), (12, v), (13, .int .i64 m), (14, .int .i64 a.1)])
    (fun a => [row .u32 (dl 4294967296 (m + 1) ((2 * x + b) % 4294967296 ^ a.1)) vo])
    (fun a => m - a.1) (0, b) (by simp; omega) (by repeat (first | exact Env.sub_nil _ | (apply Env.sub_cons; rfl))) [] (by rw [Nat.pow_zero, Nat.mod_one, dl_zero]; rfl) ?_
  rintro ⟨i, c⟩ ⟨hi, hc2, hc, hle⟩
  dsimp only at hi hc hc2 hle ⊢
  refine T_sh 0 rfl fun hsh => ?_
  rw [dl_length] at hsh
  by_cases h : i < m
  · obtain ⟨s1, s2, s3⟩ := dbl_step x b i c 4294967296 (by omega) hc hle
    have hd := dig32_lt x i
    have hor := dbl_or hd hc2
    rw [← s1] at hor
    have hset := dl_set (b := 4294967296) (n := m + 1) (x := (2 * x + b) % 4294967296 ^ i) (d := (2 * x + b) / 4294967296 ^ i % 4294967296) (by omega) (Nat.mod_lt _ (Nat.pow_pos (by omega))) (dig32_lt _ i)
    rw [← mod_pow_succ', ← hor] at hset
    have hc3 : x / 4294967296 ^ i % 4294967296 / 2 ^ 31 = (2 * x + b) / 4294967296 ^ (i + 1) - 2 * (x / 4294967296 ^ (i + 1)) := by omega
    have hc4 : x / 4294967296 ^ i % 4294967296 / 2 ^ 31 < 2 := by omega
    have hm2 : x / 4294967296 ^ i % 4294967296 * 2 ^ 1 % 4294967296 < 4294967296 := Nat.mod_lt _ (by omega)
    have hi2 : i < m + 1 := by omega
    clear hz hle s1 s2 hor hc hx
    refine T_sr ?_
    refine S_val rfl rfl (Y_lss_t rfl rfl (by omega)) ?_
    refine S_nx ?_
    refine T_seq ?_
    refine T_cond_true rfl ?_
    refine T_skip ?_
    refine X_seq ?_
    refine T_seq ?_
    refine T_block ?_
    refine T_sr ?_
    refine S_mv rfl rfl rfl ?_
    refine S_val rfl rfl (Y_ixV (und rfl) (siz rfl) rfl rfl (fun _ hs => Rd.st (by assumption) hs) (nat_cast _) (dl_lt (by assumption))) ?_
    refine S_val rfl rfl (Y_loadV (und rfl) rfl rfl (fun _ hs => Rd.st (by assumption) hs) (dl_get (by assumption))) ?_
    refine S_as rfl rfl rfl ?_
    refine S_as rfl rfl rfl ?_
    refine S_nx ?_
    refine T_sr ?_
    refine S_mv rfl rfl rfl ?_
    refine S_mv rfl rfl rfl ?_
    refine S_mv rfl rfl rfl ?_
    refine S_val rfl rfl (Y_shlN rfl rfl (nat_cast _) (nat_lit' _) rfl pw32) ?_
    refine S_mv rfl rfl rfl ?_
    refine S_val rfl rfl (Y_or rfl rfl (nat_cast _) (nat_cast _) rfl (by simp only [IntKind.bits]; assumption) (by simp only [IntKind.bits]; omega)) ?_
    refine S_val rfl rfl (Y_ixV (und rfl) (siz rfl) rfl rfl (fun _ hs => hs.rowRd 0 rfl) (nat_cast _) (dl_lt (by assumption))) ?_
    refine S_storeR 0 (siz rfl) rfl rfl rfl (dl_lt (by assumption)) rfl ?_
    refine S_nx ?_
    refine T_region ?_
    refine S_mv rfl rfl rfl ?_
    refine S_val rfl rfl (Y_shrN rfl rfl (nat_cast _) (nat_lit' _) (by simp only [IntKind.bits]; assumption)) ?_
    refine S_as rfl rfl rfl ?_
    refine S_nil ?_
    refine X_blk ?_
    refine X_seq ?_
    refine T_region ?_
    refine S_val rfl rfl (Y_addN rfl rfl (nat_cast _) (nat_lit' _) (by omega)) ?_
    refine S_mv rfl rfl rfl ?_
    refine S_nil ?_
    refine X_loop ?_
    exact ⟨(i + 1, _), ⟨by dsimp only; omega, hc4, hc3, s3⟩, by dsimp only; omega, (by repeat (first | exact Env.sub_nil _ | (apply Env.sub_cons; rfl))), [], by dsimp only; rw [← hset]; rfl⟩
  · obtain rfl : i = m := by omega
    rw [Nat.div_eq_of_lt hx, Nat.mul_zero, Nat.sub_zero] at hc
    have hset := dl_set (b := 4294967296) (n := i + 1) (x := (2 * x + b) % 4294967296 ^ i) (d := (2 * x + b) / 4294967296 ^ i % 4294967296) (by omega) (Nat.mod_lt _ (Nat.pow_pos (by omega))) (dig32_lt _ i)
    rw [← mod_pow_succ', Nat.mod_eq_of_lt hz, ← hc, Nat.mod_eq_of_lt (show c < 4294967296 by omega)] at hset
    have hi2 : i < i + 1 := by omega
    generalize (2 * x + b) % 4294967296 ^ i = y at *
    clear hc hle hx
    refine T_sr ?_
    refine S_val rfl rfl (Y_lss_f rfl rfl (by omega)) ?_
    refine S_nx ?_
    refine T_seq ?_
    refine T_cond_false rfl ?_
    refine T_exit ?_
    refine X_seq_exit ?_
    refine X_loop_exit ?_
    refine X_blk_hit rfl ?_
    refine X_seq ?_
    refine T_sr ?_
    refine S_mv rfl rfl rfl ?_
    refine S_mv rfl rfl rfl ?_
    refine S_val rfl rfl (Y_lenV rfl (und rfl) rfl (fun _ hs => Rd.st (by assumption) hs) (dl_length _ _ _)) ?_
    refine S_mv rfl rfl rfl ?_
    refine S_val rfl rfl (Y_ixV (und rfl) (siz rfl) rfl rfl (fun _ hs => hs.rowRd 0 rfl) (nat_cast _) (dl_lt (by assumption))) ?_
    refine S_storeR 0 (siz rfl) rfl rfl rfl (dl_lt (by assumption)) rfl ?_
    refine S_nx ?_
    refine T_sr ?_
    refine S_mv rfl rfl rfl ?_
    rw [hset]
    refine S_callV rfl rfl (bod rfl) (fun w hs => trim_any (2 * x + b) _ hz (by omega) vo _ (by first | exact hs.rowRd 0 rfl | exact hs.rowRd 1 rfl | exact hs.rowRd 2 rfl | exact hs.rowRd 3 rfl | exact hs.rowRd 4 rfl | exact hs.rowRd 5 rfl | exact hs.rowRd 6 rfl | exact hs.rowRd 7 rfl | exact hs.rowRd 8 rfl | exact hs.rowRd 9 rfl | exact hs.rowRd 10 rfl | exact hs.rowRd 11 rfl | exact hs.rowRd 12 rfl | exact hs.rowRd 13 rfl | exact Rd.st (by assumption) hs)) rfl rfl ?_
    refine S_conv 0 rfl (fun _ hr => hr.trim htr) ?_
    refine S_as rfl rfl rfl ?_
    refine S_nx ?_
    refine T_ret ?_
    ((first | refine X_fin_ret ?_ | refine X_fin ?_); exact ⟨[_], [_], .cons (.tmp rfl) .nil, Emb.one 0 rfl, rfl⟩)
end Go.Proofs.YtjolmphkmfbpbaaDoor
/- Package modexp: differences, what is left. -/
namespace Go.Proofs.YtjolmphkmfbpbaaDoor
open Go.RowKit
set_option maxRecDepth 20000
set_option maxHeartbeats 4000000
theorem T_nilrow {C : Ctx} {k : K} {E : Env} {L : Hp} {c : Code} (kd : IntKind) (h : T C c k E (L ++ [row kd [] (.slice none 0 0)])) : T C c k E L :=
  ⟨⟨fun a w hr hs => h.out.out a w hr (hs.push' rfl rfl rfl (Nat.le_refl _) (fun _ _ => rfl) (.inl ⟨rfl, rfl⟩))⟩⟩
theorem sub32_law {x y b d c : Nat} (hx : x < 4294967296) (hy : y < 4294967296) (hb : b ≤ 1) (he : x + c * 4294967296 = d + y + b) (hd : d < 4294967296) (hc : c ≤ 1) :
    (((4294967295 - x) &&& y) ||| ((4294967295 - (x ^^^ y)) &&& d)) / 2 ^ 31 = c := by
  have hxy : x ^^^ y < 2 ^ 32 := Nat.xor_lt_two_pow (n := 32) hx hy
  have e1 : (4294967295 - x) / 2 ^ 31 = 1 - x / 2 ^ 31 := by omega
  have e2 : (4294967295 - (x ^^^ y)) / 2 ^ 31 = 1 - (x ^^^ y) / 2 ^ 31 := by omega
  rw [Nat.or_div_two_pow, Nat.and_div_two_pow, Nat.and_div_two_pow, e1, e2, Nat.xor_div_two_pow]
  have hX : x / 2 ^ 31 = 0 ∨ x / 2 ^ 31 = 1 := by omega
  have hY : y / 2 ^ 31 = 0 ∨ y / 2 ^ 31 = 1 := by omega
  have hD : d / 2 ^ 31 = 0 ∨ d / 2 ^ 31 = 1 := by omega
  rcases hX with hX | hX <;> rcases hY with hY | hY <;> rcases hD with hD | hD <;> rw [hX, hY, hD] <;> simp <;> omega
theorem sub32_any (x y b d c : Nat) (hx : x < 4294967296) (hy : y < 4294967296) (hb : b ≤ 1) (he : x + c * 4294967296 = d + y + b) (hd : d < 4294967296) (hc : c ≤ 1) (w : World) :
    Fn Tryd.prog 77 #[.int .u32 x, .int .u32 y, .int .u32 b] w fun v N => v = .tuple #[.int .u32 d, .int .u32 c] ∧ N = [] := by
  have hl := sub32_law hx hy hb he hd hc
  obtain ⟨d1, hd1⟩ : ∃ d1, d1 = (x + 4294967296 - y) % 4294967296 := ⟨_, rfl⟩
  have h1 : IntKind.u32.wrap ((x : Int) - (y : Int)) = ((d1 : Nat) : Int) := by
    show ((x : Int) - (y : Int)) % 4294967296 = _
    omega
  have h2 : IntKind.u32.wrap ((d1 : Int) - (b : Int)) = ((d : Nat) : Int) := by
    show ((d1 : Int) - (b : Int)) % 4294967296 = _
    omega
  have hxy : x ^^^ y < 4294967296 := Nat.xor_lt_two_pow (n := 32) hx hy
  have h3 : (4294967295 - x) &&& y < 4294967296 := Nat.and_lt_two_pow (n := 32) _ hy
  have h4 : (4294967295 - (x ^^^ y)) &&& d < 4294967296 := Nat.and_lt_two_pow (n := 32) _ hd
  have h5 : ((4294967295 - x) &&& y ||| (4294967295 - (x ^^^ y)) &&& d) < 4294967296 := Nat.or_lt_two_pow (n := 32) h3 h4
  clear he hd1
  refine Fn_of (args := [.int .u32 x, .int .u32 y, .int .u32 b]) Tryd.func77 rfl Tryd.ntmps77 Tryd.results77 (by simp) ?_
  refine T_sr ?_
  refine S_as rfl rfl rfl ?_
  refine S_as rfl rfl rfl ?_
  refine S_nx ?_
  refine T_sr ?_
  refine S_mv rfl rfl rfl ?_
  refine S_mv rfl rfl rfl ?_
  refine S_val rfl rfl (Y_sub rfl rfl (by assumption)) ?_
  refine S_mv rfl rfl rfl ?_
  refine S_val rfl rfl (Y_sub rfl rfl (by assumption)) ?_
  refine S_as rfl rfl rfl ?_
  refine S_nx ?_
  refine T_sr ?_
  refine S_mv rfl rfl rfl ?_
  refine S_val rfl rfl (Y_cpl rfl (nat_cast _) rfl (by simp only [IntKind.bits]; assumption)) ?_
  refine S_mv rfl rfl rfl ?_
  refine S_val rfl rfl (Y_and rfl rfl (nat_cast _) (nat_cast _) rfl (by simp only [IntKind.bits]; omega) (by simp only [IntKind.bits]; assumption)) ?_
  refine S_mv rfl rfl rfl ?_
  refine S_mv rfl rfl rfl ?_
  refine S_val rfl rfl (Y_xor rfl rfl (nat_cast _) (nat_cast _) rfl (by simp only [IntKind.bits]; assumption) (by simp only [IntKind.bits]; assumption)) ?_
  refine S_val rfl rfl (Y_cpl rfl (nat_cast _) rfl (by simp only [IntKind.bits]; assumption)) ?_
  refine S_mv rfl rfl rfl ?_
  refine S_val rfl rfl (Y_and rfl rfl (nat_cast _) (nat_cast _) rfl (by simp only [IntKind.bits]; omega) (by simp only [IntKind.bits]; assumption)) ?_
  refine S_val rfl rfl (Y_or rfl rfl (nat_cast _) (nat_cast _) rfl (by simp only [IntKind.bits]; assumption) (by simp only [IntKind.bits]; assumption)) ?_
  refine S_val rfl rfl (Y_shrN rfl rfl (nat_cast _) (nat_lit' _) (by simp only [IntKind.bits]; assumption)) ?_
  refine S_as rfl rfl rfl ?_
  refine S_nx ?_
  refine T_ret ?_
  ((first | refine X_fin_ret ?_ | refine X_fin ?_); exact ⟨[_, _], [], .cons (.tmp rfl) (.cons (.tmp rfl) .nil), Emb.nil _, by rw [← hl]; rfl, rfl⟩)
theorem dg32_eq {x y i : Nat} (h : x / 4294967296 ^ (i + 1) = y / 4294967296 ^ (i + 1)) (hd : x / 4294967296 ^ i % 4294967296 = y / 4294967296 ^ i % 4294967296) : x / 4294967296 ^ i = y / 4294967296 ^ i := by
  rw [Nat.pow_succ, ← Nat.div_div_eq_div_mul, ← Nat.div_div_eq_div_mul] at h
  omega
theorem dg32_lt {x y i : Nat} (h : x / 4294967296 ^ (i + 1) = y / 4294967296 ^ (i + 1)) (hlt : x / 4294967296 ^ i % 4294967296 < y / 4294967296 ^ i % 4294967296) : x < y := by
  rw [Nat.pow_succ, ← Nat.div_div_eq_div_mul, ← Nat.div_div_eq_div_mul] at h
  exact Nat.lt_of_div_lt_div (c := 4294967296 ^ i) (by omega)
theorem mless_any (x y : Nat) (hn : tr x ≤ 1000000) (hm : tr y ≤ 1000000) (v u : Value) (w : World) (hv : Rd w v .u32 (dl 4294967296 (tr x) x)) (hu : Rd w u .u32 (dl 4294967296 (tr y) y)) :
    Fn Tryd.prog 66 #[v, u] w fun r N => r = .bool (decide (x < y)) ∧ N = [] := by
  have hx := tr_lt x
  have hy := tr_lt y
  rcases Nat.lt_trichotomy (tr x) (tr y) with h | h | h
  · have hxy : x < y := by
      rcases Nat.lt_or_ge x y with h2 | h2
      · exact h2
      · have := tr_mono h2; omega
    rw [decide_eq_true hxy]
    refine Fn_of (args := [v, u]) Tryd.func66 rfl Tryd.ntmps66 Tryd.results66 (by simp) ?_
    refine T_sr ?_
    refine S_as rfl rfl rfl ?_
    refine S_nx ?_
    refine T_seq ?_
    refine T_sr ?_
    refine S_mv rfl rfl rfl ?_
    refine S_val rfl rfl (Y_lenV rfl (und rfl) rfl (fun _ hs => Rd.st (by assumption) hs) (dl_length _ _ _)) ?_
    refine S_mv rfl rfl rfl ?_
    refine S_val rfl rfl (Y_lenV rfl (und rfl) rfl (fun _ hs => Rd.st (by assumption) hs) (dl_length _ _ _)) ?_
    refine S_val rfl rfl (Y_neq_t rfl rfl (by omega)) ?_
    refine S_nx ?_
    refine T_cond_true rfl ?_
    refine T_sr ?_
    refine S_mv rfl rfl rfl ?_
    refine S_val rfl rfl (Y_lenV rfl (und rfl) rfl (fun _ hs => Rd.st (by assumption) hs) (dl_length _ _ _)) ?_
    refine S_mv rfl rfl rfl ?_
    refine S_val rfl rfl (Y_lenV rfl (und rfl) rfl (fun _ hs => Rd.st (by assumption) hs) (dl_length _ _ _)) ?_
    refine S_val rfl rfl (Y_lss_t rfl rfl (by omega)) ?_
    refine S_as rfl rfl rfl ?_
    refine S_nx ?_
    refine T_ret ?_
    refine X_seq_ret ?_
    ((first | refine X_fin_ret ?_ | refine X_fin ?_); exact ⟨[_], [], .cons (.tmp rfl) .nil, Emb.nil _, rfl, rfl⟩)
  · generalize tr x = n at *
    subst h
    refine Fn_of (args := [v, u]) Tryd.func66 rfl Tryd.ntmps66 Tryd.results66 (by simp) ?_
    refine T_sr ?_
    refine S_as rfl rfl rfl ?_
    refine S_nx ?_
    refine T_seq ?_
    refine T_sr ?_
    refine S_mv rfl rfl rfl ?_
    refine S_val rfl rfl (Y_lenV rfl (und rfl) rfl (fun _ hs => Rd.st (by assumption) hs) (dl_length _ _ _)) ?_
    refine S_mv rfl rfl rfl ?_
    refine S_val rfl rfl (Y_lenV rfl (und rfl) rfl (fun _ hs => Rd.st (by assumption) hs) (dl_length _ _ _)) ?_
    refine S_val rfl rfl (Y_neq_f rfl rfl (by omega)) ?_
    refine S_nx ?_
    refine T_cond_false rfl ?_
    refine T_skip ?_
    refine X_seq ?_
    refine T_seq ?_
    refine T_sr ?_
    refine S_mv rfl rfl rfl ?_
    refine S_val rfl rfl (Y_lenV rfl (und rfl) rfl (fun _ hs => Rd.st (by assumption) hs) (dl_length _ _ _)) ?_
    refine S_val rfl rfl (Y_sub rfl rfl (wi64 (by omega) (by omega))) ?_
    refine S_as rfl rfl rfl ?_
    refine S_nx ?_
    refine T_block ?_
    refine T_loop (α := Nat) (fun j => j ≤ tr y ∧ x / 4294967296 ^ j = y / 4294967296 ^ j)
      (fun j => [(0, v), (1, u), (5, .int .i64 ((j : Int) - 1))])
      (fun j => [])
      (fun j => j) (tr y) ⟨Nat.le_refl _, by rw [Nat.div_eq_of_lt hx, Nat.div_eq_of_lt hy]⟩ (by repeat (first | exact Env.sub_nil _ | (apply Env.sub_cons; rfl))) [] rfl ?_
    rintro j ⟨hj, he⟩
    by_cases h : j = 0
    · subst h
      have hxy : x = y := by simpa using he
      refine T_seq ?_
      refine T_sr ?_
      refine S_mv rfl rfl rfl ?_
      refine S_val rfl rfl (Y_geq_f rfl rfl (by decide)) ?_
      refine S_nx ?_
      refine T_cond_false rfl ?_
      refine T_exit ?_
      refine X_seq_exit ?_
      refine X_loop_exit ?_
      refine X_blk_hit rfl ?_
      refine X_seq ?_
      refine T_sr ?_
      refine S_as rfl rfl rfl ?_
      refine S_nx ?_
      refine T_ret ?_
      ((first | refine X_fin_ret ?_ | refine X_fin ?_); exact ⟨[_], [], .cons (.tmp rfl) .nil, Emb.nil _, by rw [decide_eq_false (by omega)]; rfl, rfl⟩)
    · obtain ⟨i, rfl⟩ : ∃ i, j = i + 1 := ⟨j - 1, by omega⟩
      rw [show (((i + 1 : Nat) : Int) - 1) = (i : Int) by omega]
      rcases Nat.lt_trichotomy (x / 4294967296 ^ i % 4294967296) (y / 4294967296 ^ i % 4294967296) with hc | hc | hc
      · have hl := dg32_lt he hc
        rw [decide_eq_true hl]
        clear he
        refine T_seq ?_
        refine T_sr ?_
        refine S_mv rfl rfl rfl ?_
        refine S_val rfl rfl (Y_geq_t rfl rfl (by omega)) ?_
        refine S_nx ?_
        refine T_cond_true rfl ?_
        refine T_skip ?_
        refine X_seq ?_
        refine T_seq ?_
        refine T_block ?_
        refine T_seq ?_
        refine T_draw (by kernel_rfl) (by kernel_rfl) rfl ?_
        refine D0_val rfl rfl rfl (Y_move rfl) ?_
        refine D0_val rfl rfl rfl (Y_move rfl) ?_
        refine D0_val rfl rfl rfl (Y_ixV (und rfl) (siz rfl) rfl rfl (fun _ hs => Rd.st (by assumption) hs) (nat_cast _) (dl_lt (by assumption))) ?_
        refine D0_valM rfl rfl rfl (Y_loadV (und rfl) rfl rfl (fun _ hs => Rd.st (by assumption) hs) (dl_get (by assumption))) ?_
        refine D0_val rfl rfl rfl (Y_move rfl) ?_
        refine D0_val rfl rfl rfl (Y_move rfl) ?_
        refine D0_val rfl rfl rfl (Y_ixV (und rfl) (siz rfl) rfl rfl (fun _ hs => Rd.st (by assumption) hs) (nat_cast _) (dl_lt (by assumption))) ?_
        refine D0_valM rfl rfl rfl (Y_loadV (und rfl) rfl rfl (fun _ hs => Rd.st (by assumption) hs) (dl_get (by assumption))) ?_
        refine D0_val rfl rfl rfl (Y_neq_t rfl rfl (by omega)) ?_
        refine D0_nil ?_
        refine X_seq ?_
        refine T_cond_true rfl ?_
        refine T_seq ?_
        refine T_draw (by kernel_rfl) (by kernel_rfl) rfl ?_
        refine D0_val rfl rfl rfl (Y_move rfl) ?_
        refine D0_val rfl rfl rfl (Y_move rfl) ?_
        refine D0_val rfl rfl rfl (Y_ixV (und rfl) (siz rfl) rfl rfl (fun _ hs => Rd.st (by assumption) hs) (nat_cast _) (dl_lt (by assumption))) ?_
        refine D0_valM rfl rfl rfl (Y_loadV (und rfl) rfl rfl (fun _ hs => Rd.st (by assumption) hs) (dl_get (by assumption))) ?_
        refine D0_val rfl rfl rfl (Y_move rfl) ?_
        refine D0_val rfl rfl rfl (Y_move rfl) ?_
        refine D0_val rfl rfl rfl (Y_ixV (und rfl) (siz rfl) rfl rfl (fun _ hs => Rd.st (by assumption) hs) (nat_cast _) (dl_lt (by assumption))) ?_
        refine D0_valM rfl rfl rfl (Y_loadV (und rfl) rfl rfl (fun _ hs => Rd.st (by assumption) hs) (dl_get (by assumption))) ?_
        refine D0_val rfl rfl rfl (Y_lss_t rfl rfl (by omega)) ?_
        refine D0_val rfl rfl rfl (Y_assign rfl) ?_
        refine D0_nil ?_
        refine X_seq ?_
        refine T_ret ?_
        refine X_blk_ret ?_
        refine X_seq_ret ?_
        refine X_loop_ret ?_
        refine X_blk_ret ?_
        refine X_seq_ret ?_
        ((first | refine X_fin_ret ?_ | refine X_fin ?_); exact ⟨[_], [], .cons (.tmp rfl) .nil, Emb.nil _, rfl, rfl⟩)
      · have e := dg32_eq he hc
        clear he
        refine T_seq ?_
        refine T_sr ?_
        refine S_mv rfl rfl rfl ?_
        refine S_val rfl rfl (Y_geq_t rfl rfl (by omega)) ?_
        refine S_nx ?_
        refine T_cond_true rfl ?_
        refine T_skip ?_
        refine X_seq ?_
        refine T_seq ?_
        refine T_block ?_
        refine T_seq ?_
        refine T_draw (by kernel_rfl) (by kernel_rfl) rfl ?_
        refine D0_val rfl rfl rfl (Y_move rfl) ?_
        refine D0_val rfl rfl rfl (Y_move rfl) ?_
        refine D0_val rfl rfl rfl (Y_ixV (und rfl) (siz rfl) rfl rfl (fun _ hs => Rd.st (by assumption) hs) (nat_cast _) (dl_lt (by assumption))) ?_
        refine D0_valM rfl rfl rfl (Y_loadV (und rfl) rfl rfl (fun _ hs => Rd.st (by assumption) hs) (dl_get (by assumption))) ?_
        refine D0_val rfl rfl rfl (Y_move rfl) ?_
        refine D0_val rfl rfl rfl (Y_move rfl) ?_
        refine D0_val rfl rfl rfl (Y_ixV (und rfl) (siz rfl) rfl rfl (fun _ hs => Rd.st (by assumption) hs) (nat_cast _) (dl_lt (by assumption))) ?_
        refine D0_valM rfl rfl rfl (Y_loadV (und rfl) rfl rfl (fun _ hs => Rd.st (by assumption) hs) (dl_get (by assumption))) ?_
        refine D0_val rfl rfl rfl (Y_neq_f rfl rfl (by omega)) ?_
        refine D0_nil ?_
        refine X_seq ?_
        refine T_cond_false rfl ?_
        refine T_skip ?_
        refine X_blk ?_
        refine X_seq ?_
        refine T_region ?_
        refine S_mv rfl rfl rfl ?_
        refine S_val rfl rfl (Y_sub rfl rfl (wi64 (by omega) (by omega))) ?_
        refine S_as rfl rfl rfl ?_
        refine S_nil ?_
        refine X_loop ?_
        exact ⟨i, ⟨by omega, e⟩, by omega, (by repeat (first | exact Env.sub_nil _ | (apply Env.sub_cons; rfl))), [], rfl⟩
      · have hl := dg32_lt he.symm hc
        rw [decide_eq_false (by omega)]
        clear he
        refine T_seq ?_
        refine T_sr ?_
        refine S_mv rfl rfl rfl ?_
        refine S_val rfl rfl (Y_geq_t rfl rfl (by omega)) ?_
        refine S_nx ?_
        refine T_cond_true rfl ?_
        refine T_skip ?_
        refine X_seq ?_
        refine T_seq ?_
        refine T_block ?_
        refine T_seq ?_
        refine T_draw (by kernel_rfl) (by kernel_rfl) rfl ?_
        refine D0_val rfl rfl rfl (Y_move rfl) ?_
        refine D0_val rfl rfl rfl (Y_move rfl) ?_
        refine D0_val rfl rfl rfl (Y_ixV (und rfl) (siz rfl) rfl rfl (fun _ hs => Rd.st (by assumption) hs) (nat_cast _) (dl_lt (by assumption))) ?_
        refine D0_valM rfl rfl rfl (Y_loadV (und rfl) rfl rfl (fun _ hs => Rd.st (by assumption) hs) (dl_get (by assumption))) ?_
        refine D0_val rfl rfl rfl (Y_move rfl) ?_
        refine D0_val rfl rfl rfl (Y_move rfl) ?_
        refine D0_val rfl rfl rfl (Y_ixV (und rfl) (siz rfl) rfl rfl (fun _ hs => Rd.st (by assumption) hs) (nat_cast _) (dl_lt (by assumption))) ?_
        refine D0_valM rfl rfl rfl (Y_loadV (und rfl) rfl rfl (fun _ hs => Rd.st (by assumption) hs) (dl_get (by assumption))) ?_
        refine D0_val rfl rfl rfl (Y_neq_t rfl rfl (by omega)) ?_
        refine D0_nil ?_
        refine X_seq ?_
        refine T_cond_true rfl ?_
        refine T_seq ?_
        refine T_draw (by kernel_rfl) (by kernel_rfl) rfl ?_
        refine D0_val rfl rfl rfl (Y_move rfl) ?_
        refine D0_val rfl rfl rfl (Y_move rfl) ?_
        refine D0_val rfl rfl rfl (Y_ixV (und rfl) (siz rfl) rfl rfl (fun _ hs => Rd.st (by assumption) hs) (nat_cast _) (dl_lt (by assumption))) ?_
        refine D0_valM rfl rfl rfl (Y_loadV (und rfl) rfl rfl (fun _ hs => Rd.st (by assumption) hs) (dl_get (by assumption))) ?_
        refine D0_val rfl rfl rfl (Y_move rfl) ?_
        refine D0_val rfl rfl rfl (Y_move rfl) ?_
        refine D0_val rfl rfl rfl (Y_ixV (und rfl) (siz rfl) rfl rfl (fun _ hs => Rd.st (by assumption) hs) (nat_cast _) (dl_lt (by assumption))) ?_
        refine D0_valM rfl rfl rfl (Y_loadV (und rfl) rfl rfl (fun _ hs => Rd.st (by assumption) hs) (dl_get (by assumption))) ?_
        refine D0_val rfl rfl rfl (Y_lss_f rfl rfl (by omega)) ?_
        refine D0_val rfl rfl rfl (Y_assign rfl) ?_
        refine D0_nil ?_
        refine X_seq ?_
        refine T_ret ?_
        refine X_blk_ret ?_
        refine X_seq_ret ?_
        refine X_loop_ret ?_
        refine X_blk_ret ?_
        refine X_seq_ret ?_
        ((first | refine X_fin_ret ?_ | refine X_fin ?_); exact ⟨[_], [], .cons (.tmp rfl) .nil, Emb.nil _, rfl, rfl⟩)
  · have hxy : ¬ x < y := by
      intro h2
      have := tr_mono (Nat.le_of_lt h2)
      omega
    rw [decide_eq_false hxy]
    refine Fn_of (args := [v, u]) Tryd.func66 rfl Tryd.ntmps66 Tryd.results66 (by simp) ?_
    refine T_sr ?_
    refine S_as rfl rfl rfl ?_
    refine S_nx ?_
    refine T_seq ?_
    refine T_sr ?_
    refine S_mv rfl rfl rfl ?_
    refine S_val rfl rfl (Y_lenV rfl (und rfl) rfl (fun _ hs => Rd.st (by assumption) hs) (dl_length _ _ _)) ?_
    refine S_mv rfl rfl rfl ?_
    refine S_val rfl rfl (Y_lenV rfl (und rfl) rfl (fun _ hs => Rd.st (by assumption) hs) (dl_length _ _ _)) ?_
    refine S_val rfl rfl (Y_neq_t rfl rfl (by omega)) ?_
    refine S_nx ?_
    refine T_cond_true rfl ?_
    refine T_sr ?_
    refine S_mv rfl rfl rfl ?_
    refine S_val rfl rfl (Y_lenV rfl (und rfl) rfl (fun _ hs => Rd.st (by assumption) hs) (dl_length _ _ _)) ?_
    refine S_mv rfl rfl rfl ?_
    refine S_val rfl rfl (Y_lenV rfl (und rfl) rfl (fun _ hs => Rd.st (by assumption) hs) (dl_length _ _ _)) ?_
    refine S_val rfl rfl (Y_lss_f rfl rfl (by omega)) ?_
    refine S_as rfl rfl rfl ?_
    refine S_nx ?_
    refine T_ret ?_
    refine X_seq_ret ?_
    ((first | refine X_fin_ret ?_ | refine X_fin ?_); exact ⟨[_], [], .cons (.tmp rfl) .nil, Emb.nil _, rfl, rfl⟩)
theorem mminus_any (z y n m : Nat) (hx : z + y < 4294967296 ^ n) (hy : y < 4294967296 ^ m) (hn : n ≤ 1000000) (hm : m ≤ 1000000) (v u : Value) (w : World) (hv : Rd w v .u32 (dl 4294967296 n (z + y))) (hu : Rd w u .u32 (dl 4294967296 m y)) :
    Fn Tryd.prog 67 #[v, u] w fun r N => N = [row .u32 (dl 4294967296 (tr z) z) r] := by
  refine Fn_of (args := [v, u]) Tryd.func67 rfl Tryd.ntmps67 Tryd.results67 (by simp) ?_
  refine T_sr ?_
  refine S_as rfl rfl rfl ?_
  refine S_nx ?_
  refine T_sr ?_
  refine S_mv rfl rfl rfl ?_
  refine S_val rfl rfl (Y_lenV rfl (und rfl) rfl (fun _ hs => Rd.st (by assumption) hs) (dl_length _ _ _)) ?_
  refine S_makeR (und rfl) (siz rfl) (byt rfl) (zer rfl) rfl rfl (nat_cast _) (by omega) rfl rfl rfl fun _ => ?_
  refine S_as rfl rfl rfl ?_
  refine S_nx ?_
  refine T_sr ?_
  refine S_as rfl rfl rfl ?_
  refine S_nx ?_
  refine T_seq ?_
  refine T_sr ?_
  refine S_mv rfl rfl rfl ?_
  refine S_val rfl rfl (Y_lenV rfl (und rfl) rfl (fun _ hs => Rd.st (by assumption) hs) (dl_length _ _ _)) ?_
  refine S_mv rfl rfl rfl ?_
  refine S_nx ?_
  refine T_block ?_
  rename_i vo
  refine T_loop (α := Nat × Nat) (fun a => a.1 ≤ n ∧ a.2 = (z % 4294967296 ^ a.1 + y % 4294967296 ^ a.1) / 4294967296 ^ a.1)
    (fun a => [(0, v), (1, u), (5, vo), (6, .int .u32 a.2), (13, v), (14, .int .i64 n), (15, .int .i64 a.1)])
    (fun a => [row .u32 (dl 4294967296 n (z % 4294967296 ^ a.1)) vo])
    (fun a => n - a.1) (0, 0) (by simp [Nat.mod_one]) (by repeat (first | exact Env.sub_nil _ | (apply Env.sub_cons; rfl))) [] (by rw [Nat.pow_zero, Nat.mod_one, dl_zero]; rfl) ?_
  rintro ⟨i, c⟩ ⟨hi, hc⟩
  dsimp only at hi hc ⊢
  refine T_sh 0 rfl fun hsh => ?_
  rw [dl_length] at hsh
  have hc1 := carry_le 4294967296 i z y (by omega)
  have hx1 := dig32_lt (z + y) i
  have hy1 := dig32_lt y i
  have hz1 := dig32_lt z i
  have hs := sum_digit 4294967296 i z y (by omega)
  have hc2 := sum_carry 4294967296 i z y (by omega)
  rw [← hc] at hs hc2 hc1
  by_cases h : i < n
  · have hset := dl_set (b := 4294967296) (n := n) (x := z % 4294967296 ^ i) (d := z / 4294967296 ^ i % 4294967296) (by omega) (Nat.mod_lt _ (Nat.pow_pos (by omega))) hz1
    rw [← mod_pow_succ'] at hset
    have hc3 := carry_le 4294967296 (i + 1) z y (by omega)
    have hcall : (z + y) / 4294967296 ^ i % 4294967296 + (z % 4294967296 ^ (i + 1) + y % 4294967296 ^ (i + 1)) / 4294967296 ^ (i + 1) * 4294967296 = z / 4294967296 ^ i % 4294967296 + y / 4294967296 ^ i % 4294967296 + c := by omega
    have s32 := sub32_any _ _ _ _ _ hx1 hy1 hc1 hcall hz1 hc3
    have hy0 : ¬ i < m → y / 4294967296 ^ i % 4294967296 = 0 := fun h2 => by
      rw [Nat.div_eq_of_lt (Nat.lt_of_lt_of_le hy (Nat.pow_le_pow_right (by omega) (by omega)))]
    clear hx hy hc hs hcall hc2
    by_cases h2 : i < m
    · refine T_sr ?_
      refine S_val rfl rfl (Y_lss_t rfl rfl (by omega)) ?_
      refine S_nx ?_
      refine T_seq ?_
      refine T_cond_true rfl ?_
      refine T_skip ?_
      refine X_seq ?_
      refine T_seq ?_
      refine T_block ?_
      refine T_sr ?_
      refine S_mv rfl rfl rfl ?_
      refine S_val rfl rfl (Y_ixV (und rfl) (siz rfl) rfl rfl (fun _ hs => Rd.st (by assumption) hs) (nat_cast _) (dl_lt (by assumption))) ?_
      refine S_val rfl rfl (Y_loadV (und rfl) rfl rfl (fun _ hs => Rd.st (by assumption) hs) (dl_get (by assumption))) ?_
      refine S_as rfl rfl rfl ?_
      refine S_as rfl rfl rfl ?_
      refine S_nx ?_
      refine T_sr ?_
      refine S_as rfl rfl rfl ?_
      refine S_nx ?_
      refine T_seq ?_
      refine T_sr ?_
      refine S_mv rfl rfl rfl ?_
      refine S_mv rfl rfl rfl ?_
      refine S_val rfl rfl (Y_lenV rfl (und rfl) rfl (fun _ hs => Rd.st (by assumption) hs) (dl_length _ _ _)) ?_
      refine S_val rfl rfl (Y_lss_t rfl rfl (by omega)) ?_
      refine S_nx ?_
      refine T_cond_true rfl ?_
      refine T_region ?_
      refine S_mv rfl rfl rfl ?_
      refine S_mv rfl rfl rfl ?_
      refine S_val rfl rfl (Y_ixV (und rfl) (siz rfl) rfl rfl (fun _ hs => Rd.st (by assumption) hs) (nat_cast _) (dl_lt (by assumption))) ?_
      refine S_val rfl rfl (Y_loadV (und rfl) rfl rfl (fun _ hs => Rd.st (by assumption) hs) (dl_get (by assumption))) ?_
      refine S_as rfl rfl rfl ?_
      refine S_nx ?_
      refine T_region ?_
      refine S_mv rfl rfl rfl ?_
      refine S_mv rfl rfl rfl ?_
      refine S_mv rfl rfl rfl ?_
      refine S_mv rfl rfl rfl ?_
      refine S_mv rfl rfl rfl ?_
      refine S_callV rfl rfl (bod rfl) (fun w hs => s32 _) rfl rfl ?_
      refine S_mv rfl rfl rfl ?_
      refine S_val rfl rfl (Y_extract rfl rfl) ?_
      refine S_val rfl rfl (Y_extract rfl rfl) ?_
      refine S_val rfl rfl (Y_ixV (und rfl) (siz rfl) rfl rfl (fun _ hs => hs.rowRd 0 rfl) (nat_cast _) (dl_lt (by assumption))) ?_
      refine S_storeR 0 (siz rfl) rfl rfl rfl (dl_lt (by assumption)) rfl ?_
      refine S_as rfl rfl rfl ?_
      refine S_nil ?_
      refine X_blk ?_
      refine X_seq ?_
      refine T_region ?_
      refine S_val rfl rfl (Y_addN rfl rfl (nat_cast _) (nat_lit' _) (by omega)) ?_
      refine S_mv rfl rfl rfl ?_
      refine S_nil ?_
      refine X_loop ?_
      exact ⟨(i + 1, _), ⟨by dsimp only; omega, rfl⟩, by dsimp only; omega, (by repeat (first | exact Env.sub_nil _ | (apply Env.sub_cons; rfl))), [], by dsimp only; rw [← hset]; rfl⟩
    · rw [hy0 h2] at s32
      refine T_sr ?_
      refine S_val rfl rfl (Y_lss_t rfl rfl (by omega)) ?_
      refine S_nx ?_
      refine T_seq ?_
      refine T_cond_true rfl ?_
      refine T_skip ?_
      refine X_seq ?_
      refine T_seq ?_
      refine T_block ?_
      refine T_sr ?_
      refine S_mv rfl rfl rfl ?_
      refine S_val rfl rfl (Y_ixV (und rfl) (siz rfl) rfl rfl (fun _ hs => Rd.st (by assumption) hs) (nat_cast _) (dl_lt (by assumption))) ?_
      refine S_val rfl rfl (Y_loadV (und rfl) rfl rfl (fun _ hs => Rd.st (by assumption) hs) (dl_get (by assumption))) ?_
      refine S_as rfl rfl rfl ?_
      refine S_as rfl rfl rfl ?_
      refine S_nx ?_
      refine T_sr ?_
      refine S_as rfl rfl rfl ?_
      refine S_nx ?_
      refine T_seq ?_
      refine T_sr ?_
      refine S_mv rfl rfl rfl ?_
      refine S_mv rfl rfl rfl ?_
      refine S_val rfl rfl (Y_lenV rfl (und rfl) rfl (fun _ hs => Rd.st (by assumption) hs) (dl_length _ _ _)) ?_
      refine S_val rfl rfl (Y_lss_f rfl rfl (by omega)) ?_
      refine S_nx ?_
      refine T_cond_false rfl ?_
      refine T_skip ?_
      refine X_seq ?_
      refine T_region ?_
      refine S_mv rfl rfl rfl ?_
      refine S_mv rfl rfl rfl ?_
      refine S_mv rfl rfl rfl ?_
      refine S_mv rfl rfl rfl ?_
      refine S_mv rfl rfl rfl ?_
      refine S_callV rfl rfl (bod rfl) (fun w hs => s32 _) rfl rfl ?_
      refine S_mv rfl rfl rfl ?_
      refine S_val rfl rfl (Y_extract rfl rfl) ?_
      refine S_val rfl rfl (Y_extract rfl rfl) ?_
      refine S_val rfl rfl (Y_ixV (und rfl) (siz rfl) rfl rfl (fun _ hs => hs.rowRd 0 rfl) (nat_cast _) (dl_lt (by assumption))) ?_
      refine S_storeR 0 (siz rfl) rfl rfl rfl (dl_lt (by assumption)) rfl ?_
      refine S_as rfl rfl rfl ?_
      refine S_nil ?_
      refine X_blk ?_
      refine X_seq ?_
      refine T_region ?_
      refine S_val rfl rfl (Y_addN rfl rfl (nat_cast _) (nat_lit' _) (by omega)) ?_
      refine S_mv rfl rfl rfl ?_
      refine S_nil ?_
      refine X_loop ?_
      exact ⟨(i + 1, _), ⟨by dsimp only; omega, rfl⟩, by dsimp only; omega, (by repeat (first | exact Env.sub_nil _ | (apply Env.sub_cons; rfl))), [], by dsimp only; rw [← hset]; rfl⟩
  · obtain rfl : i = n := by omega
    have hz : z < 4294967296 ^ i := by omega
    have htr := tr_le hz
    rw [Nat.mod_eq_of_lt hz]
    clear hc hs hc2 hc1
    refine T_sr ?_
    refine S_val rfl rfl (Y_lss_f rfl rfl (by omega)) ?_
    refine S_nx ?_
    refine T_seq ?_
    refine T_cond_false rfl ?_
    refine T_exit ?_
    refine X_seq_exit ?_
    refine X_loop_exit ?_
    refine X_blk_hit rfl ?_
    refine X_seq ?_
    refine T_sr ?_
    refine S_mv rfl rfl rfl ?_
    refine S_callV rfl rfl (bod rfl) (fun w hs => trim_any z _ hz (by omega) vo _ (by first | exact hs.rowRd 0 rfl | exact hs.rowRd 1 rfl | exact hs.rowRd 2 rfl | exact hs.rowRd 3 rfl | exact hs.rowRd 4 rfl | exact hs.rowRd 5 rfl | exact hs.rowRd 6 rfl | exact hs.rowRd 7 rfl | exact hs.rowRd 8 rfl | exact hs.rowRd 9 rfl | exact hs.rowRd 10 rfl | exact hs.rowRd 11 rfl | exact hs.rowRd 12 rfl | exact hs.rowRd 13 rfl | exact Rd.st (by assumption) hs)) rfl rfl ?_
    refine S_conv 0 rfl (fun _ hr => hr.trim htr) ?_
    refine S_as rfl rfl rfl ?_
    refine S_nx ?_
    refine T_ret ?_
    ((first | refine X_fin_ret ?_ | refine X_fin ?_); exact ⟨[_], [_], .cons (.tmp rfl) .nil, Emb.one 0 rfl, rfl⟩)
theorem bit32 (x i : Nat) : (x / 4294967296 ^ (i / 32) % 4294967296 / 2 ^ (i % 32)) &&& 1 = x / 2 ^ i % 2 := by
  rw [Nat.and_one_is_mod, show (4294967296 : Nat) = 2 ^ 32 by decide, ← Nat.pow_mul]
  have e : x / 2 ^ i = x / 2 ^ (32 * (i / 32)) / 2 ^ (i % 32) := by
    rw [Nat.div_div_eq_div_mul, ← Nat.pow_add, Nat.div_add_mod]
  rw [e]
  generalize x / 2 ^ (32 * (i / 32)) = y
  exact digit_mod 2 32 y (i % 32) (Nat.mod_lt _ (by omega)) ▸ rfl
theorem mmod_any (x y n : Nat) (hx : x < 4294967296 ^ n) (hy : y ≠ 0) (hn : n ≤ 10000) (hm : tr y ≤ 10000) (v u : Value) (w : World) (hv : Rd w v .u32 (dl 4294967296 n x)) (hu : Rd w u .u32 (dl 4294967296 (tr y) y)) :
    Fn Tryd.prog 40 #[v, u] w fun r N => N = [row .u32 (dl 4294967296 (tr (x % y)) (x % y)) r] := by
  have hx2 : x / 2 ^ (32 * n) = 0 := Nat.div_eq_of_lt (by rwa [← b32])
  refine Fn_of (args := [v, u]) Tryd.func40 rfl Tryd.ntmps40 Tryd.results40 (by simp) ?_
  refine T_nilrow .u32 ?_
  refine T_sr ?_
  refine S_as rfl rfl rfl ?_
  refine S_nx ?_
  refine T_sr ?_
  refine S_as rfl rfl rfl ?_
  refine S_nx ?_
  refine T_seq ?_
  refine T_sr ?_
  refine S_mv rfl rfl rfl ?_
  refine S_val rfl rfl (Y_lenV rfl (und rfl) rfl (fun _ hs => Rd.st (by assumption) hs) (dl_length _ _ _)) ?_
  refine S_val rfl rfl (Y_mulN rfl rfl (nat_lit' _) (nat_cast _) (by omega)) ?_
  refine S_val rfl rfl (Y_sub rfl rfl (wi64 (by omega) (by omega))) ?_
  refine S_as rfl rfl rfl ?_
  refine S_nx ?_
  refine T_block ?_
  refine T_loopE (α := Nat × Value) (fun a => a.1 ≤ 32 * n)
    (fun a => [(0, v), (1, u), (5, a.2), (6, .int .i64 ((a.1 : Int) - 1))])
    (fun a => [row .u32 (dl 4294967296 (tr (x / 2 ^ a.1 % y)) (x / 2 ^ a.1 % y)) a.2])
    (fun a => a.1) (32 * n, .slice none 0 0) (Nat.le_refl _) (by repeat (first | exact Env.sub_nil _ | (apply Env.sub_cons; rfl))) (by dsimp only; rw [hx2, Nat.zero_mod]; exact Emb.refl _) ?_
  rintro ⟨j, vl⟩ hj
  dsimp only at hj ⊢
  by_cases h : j = 0
  · subst h
    rw [Nat.pow_zero, Nat.div_one]
    refine T_seq ?_
    refine T_sr ?_
    refine S_mv rfl rfl rfl ?_
    refine S_val rfl rfl (Y_geq_f rfl rfl (by decide)) ?_
    refine S_nx ?_
    refine T_cond_false rfl ?_
    refine T_exit ?_
    refine X_seq_exit ?_
    refine X_loop_exit ?_
    refine X_blk_hit rfl ?_
    refine X_seq ?_
    refine T_sr ?_
    refine S_mv rfl rfl rfl ?_
    refine S_as rfl rfl rfl ?_
    refine S_nx ?_
    refine T_ret ?_
    ((first | refine X_fin_ret ?_ | refine X_fin ?_); exact ⟨[_], [_], .cons (.tmp rfl) .nil, Emb.one 0 rfl, rfl⟩)
  · obtain ⟨i, rfl⟩ : ∃ i, j = i + 1 := ⟨j - 1, by omega⟩
    rw [show (((i + 1 : Nat) : Int) - 1) = (i : Int) by omega]
    have hb := bit32 x i
    have hb2 : x / 2 ^ i % 2 < 2 := Nat.mod_lt _ (by omega)
    have hd := dig32_lt x (i / 32)
    have hd2 : x / 4294967296 ^ (i / 32) % 4294967296 / 2 ^ (i % 32) < 4294967296 := Nat.lt_of_le_of_lt (Nat.div_le_self _ _) hd
    have hl : x / 2 ^ (i + 1) % y < y := Nat.mod_lt _ (by omega)
    have htl := tr_mono (Nat.le_of_lt hl)
    have hq : i / 32 < n := by omega
    have hstep : x / 2 ^ i % y = (2 * (x / 2 ^ (i + 1) % y) + x / 2 ^ i % 2) % y := by
      have h1 : x / 2 ^ (i + 1) = x / 2 ^ i / 2 := by rw [Nat.pow_succ, Nat.div_div_eq_div_mul]
      rw [h1]
      generalize x / 2 ^ i = q
      have h2 := Nat.div_add_mod q 2
      conv => lhs; rw [← h2]
      rw [Nat.add_mod, Nat.mul_mod]
      conv => rhs; rw [Nat.add_mod, Nat.mul_mod, Nat.mod_mod]
    have db : ∀ w, Rd w vl .u32 (dl 4294967296 (tr (x / 2 ^ (i + 1) % y)) (x / 2 ^ (i + 1) % y)) → Fn Tryd.prog 65 #[vl, .int .u32 ((x / 4294967296 ^ (i / 32) % 4294967296 / 2 ^ (i % 32) &&& 1 : Nat) : Int)] w fun u N => N = [row .u32 (dl 4294967296 (tr (2 * (x / 2 ^ (i + 1) % y) + x / 2 ^ i % 2)) (2 * (x / 2 ^ (i + 1) % y) + x / 2 ^ i % 2)) u] := fun w h => by
      rw [hb]
      exact double_any _ _ _ (tr_lt _) hb2 (by omega) vl w h
    have hl2 : 2 * (x / 2 ^ (i + 1) % y) + x / 2 ^ i % 2 < 2 * y := by omega
    have ht2 : tr (2 * (x / 2 ^ (i + 1) % y) + x / 2 ^ i % 2) ≤ 20000 := by
      have h3 : 2 * (x / 2 ^ (i + 1) % y) + x / 2 ^ i % 2 < 4294967296 ^ (tr y + 1) := by
        refine Nat.lt_of_lt_of_le hl2 ?_
        have := tr_lt y
        revert this
        rw [Nat.pow_succ]
        generalize 4294967296 ^ tr y = P
        intro this
        omega
      have := tr_le h3
      omega
    clear hb hx2 hx htl hl
    generalize 2 * (x / 2 ^ (i + 1) % y) + x / 2 ^ i % 2 = z at *
    generalize x / 2 ^ (i + 1) % y = l at *
    have ls := fun v2 => mless_any z y (by omega) (by omega) v2 u
    by_cases hlt : z < y
    · rw [decide_eq_true hlt] at ls
      rw [Nat.mod_eq_of_lt hlt] at hstep
      refine T_seq ?_
      refine T_sr ?_
      refine S_mv rfl rfl rfl ?_
      refine S_val rfl rfl (Y_geq_t rfl rfl (by omega)) ?_
      refine S_nx ?_
      refine T_cond_true rfl ?_
      refine T_skip ?_
      refine X_seq ?_
      refine T_seq ?_
      refine T_block ?_
      refine T_sr ?_
      refine S_mv rfl rfl rfl ?_
      refine S_mv rfl rfl rfl ?_
      refine S_mv rfl rfl rfl ?_
      refine S_val rfl rfl (Y_quoN rfl rfl (nat_cast _) (nat_lit' _) (Nat.succ_ne_zero _) (by first | with_reducible exact xi64 (by omega) | with_reducible exact x64 (by omega) | with_reducible exact x8 (by omega) | with_reducible exact x32 (by omega))) ?_
      refine S_val rfl rfl (Y_ixV (und rfl) (siz rfl) rfl rfl (fun _ hs => Rd.st (by assumption) hs) (nat_cast _) (dl_lt (by assumption))) ?_
      refine S_val rfl rfl (Y_loadV (und rfl) rfl rfl (fun _ hs => Rd.st (by assumption) hs) (dl_get (by assumption))) ?_
      refine S_mv rfl rfl rfl ?_
      refine S_val rfl rfl (Y_remN rfl rfl (nat_cast _) (nat_lit' _) (Nat.succ_ne_zero _)) ?_
      refine S_val rfl rfl (Y_shrN rfl rfl (nat_cast _) (nat_cast _) (by simp only [IntKind.bits]; assumption)) ?_
      refine S_val rfl rfl (Y_and rfl rfl (nat_cast _) (nat_lit' _) rfl (by simp only [IntKind.bits]; assumption) (by simp only [IntKind.bits]; omega)) ?_
      refine S_callR _ rfl rfl (bod rfl) (fun w hs => db _ (by first | exact hs.rowRd 0 rfl | exact hs.rowRd 1 rfl | exact hs.rowRd 2 rfl | exact hs.rowRd 3 rfl | exact hs.rowRd 4 rfl | exact hs.rowRd 5 rfl | exact hs.rowRd 6 rfl | exact hs.rowRd 7 rfl | exact hs.rowRd 8 rfl | exact hs.rowRd 9 rfl | exact hs.rowRd 10 rfl | exact hs.rowRd 11 rfl | exact hs.rowRd 12 rfl | exact hs.rowRd 13 rfl | exact Rd.st (by assumption) hs)) rfl rfl fun _ => ?_
      refine S_as rfl rfl rfl ?_
      refine S_nx ?_
      refine T_sr ?_
      refine S_mv rfl rfl rfl ?_
      refine S_mv rfl rfl rfl ?_
      refine S_callV rfl rfl (bod rfl) (fun w hs => ls _ _ (by first | exact hs.rowRd 0 rfl | exact hs.rowRd 1 rfl | exact hs.rowRd 2 rfl | exact hs.rowRd 3 rfl | exact hs.rowRd 4 rfl | exact hs.rowRd 5 rfl | exact hs.rowRd 6 rfl | exact hs.rowRd 7 rfl | exact hs.rowRd 8 rfl | exact hs.rowRd 9 rfl | exact hs.rowRd 10 rfl | exact hs.rowRd 11 rfl | exact hs.rowRd 12 rfl | exact hs.rowRd 13 rfl | exact Rd.st (by assumption) hs) (by first | exact hs.rowRd 0 rfl | exact hs.rowRd 1 rfl | exact hs.rowRd 2 rfl | exact hs.rowRd 3 rfl | exact hs.rowRd 4 rfl | exact hs.rowRd 5 rfl | exact hs.rowRd 6 rfl | exact hs.rowRd 7 rfl | exact hs.rowRd 8 rfl | exact hs.rowRd 9 rfl | exact hs.rowRd 10 rfl | exact hs.rowRd 11 rfl | exact hs.rowRd 12 rfl | exact hs.rowRd 13 rfl | exact Rd.st (by assumption) hs)) rfl rfl ?_
      refine S_val rfl rfl (Y_not rfl rfl) ?_
      refine S_nx ?_
      refine T_cond_false rfl ?_
      refine T_skip ?_
      refine X_blk ?_
      refine X_seq ?_
      refine T_region ?_
      refine S_mv rfl rfl rfl ?_
      refine S_val rfl rfl (Y_sub rfl rfl (wi64 (by omega) (by omega))) ?_
      refine S_as rfl rfl rfl ?_
      refine S_nil ?_
      refine X_loop ?_
      exact ⟨(i, _), by dsimp only; omega, by dsimp only; omega, (by repeat (first | exact Env.sub_nil _ | (apply Env.sub_cons; rfl))), by dsimp only; rw [hstep]; exact Emb.one 1 rfl⟩
    · rw [decide_eq_false hlt] at ls
      obtain ⟨r, rfl⟩ : ∃ r, z = r + y := ⟨z - y, by omega⟩
      rw [Nat.add_mod_right, Nat.mod_eq_of_lt (show r < y by omega)] at hstep
      have mn := fun v2 w h => mminus_any r y (tr (r + y)) (tr y) (tr_lt _) (tr_lt _) (by omega) (by omega) v2 u w h
      refine T_seq ?_
      refine T_sr ?_
      refine S_mv rfl rfl rfl ?_
      refine S_val rfl rfl (Y_geq_t rfl rfl (by omega)) ?_
      refine S_nx ?_
      refine T_cond_true rfl ?_
      refine T_skip ?_
      refine X_seq ?_
      refine T_seq ?_
      refine T_block ?_
      refine T_sr ?_
      refine S_mv rfl rfl rfl ?_
      refine S_mv rfl rfl rfl ?_
      refine S_mv rfl rfl rfl ?_
      refine S_val rfl rfl (Y_quoN rfl rfl (nat_cast _) (nat_lit' _) (Nat.succ_ne_zero _) (by first | with_reducible exact xi64 (by omega) | with_reducible exact x64 (by omega) | with_reducible exact x8 (by omega) | with_reducible exact x32 (by omega))) ?_
      refine S_val rfl rfl (Y_ixV (und rfl) (siz rfl) rfl rfl (fun _ hs => Rd.st (by assumption) hs) (nat_cast _) (dl_lt (by assumption))) ?_
      refine S_val rfl rfl (Y_loadV (und rfl) rfl rfl (fun _ hs => Rd.st (by assumption) hs) (dl_get (by assumption))) ?_
      refine S_mv rfl rfl rfl ?_
      refine S_val rfl rfl (Y_remN rfl rfl (nat_cast _) (nat_lit' _) (Nat.succ_ne_zero _)) ?_
      refine S_val rfl rfl (Y_shrN rfl rfl (nat_cast _) (nat_cast _) (by simp only [IntKind.bits]; assumption)) ?_
      refine S_val rfl rfl (Y_and rfl rfl (nat_cast _) (nat_lit' _) rfl (by simp only [IntKind.bits]; assumption) (by simp only [IntKind.bits]; omega)) ?_
      refine S_callR _ rfl rfl (bod rfl) (fun w hs => db _ (by first | exact hs.rowRd 0 rfl | exact hs.rowRd 1 rfl | exact hs.rowRd 2 rfl | exact hs.rowRd 3 rfl | exact hs.rowRd 4 rfl | exact hs.rowRd 5 rfl | exact hs.rowRd 6 rfl | exact hs.rowRd 7 rfl | exact hs.rowRd 8 rfl | exact hs.rowRd 9 rfl | exact hs.rowRd 10 rfl | exact hs.rowRd 11 rfl | exact hs.rowRd 12 rfl | exact hs.rowRd 13 rfl | exact Rd.st (by assumption) hs)) rfl rfl fun _ => ?_
      refine S_as rfl rfl rfl ?_
      refine S_nx ?_
      refine T_sr ?_
      refine S_mv rfl rfl rfl ?_
      refine S_mv rfl rfl rfl ?_
      refine S_callV rfl rfl (bod rfl) (fun w hs => ls _ _ (by first | exact hs.rowRd 0 rfl | exact hs.rowRd 1 rfl | exact hs.rowRd 2 rfl | exact hs.rowRd 3 rfl | exact hs.rowRd 4 rfl | exact hs.rowRd 5 rfl | exact hs.rowRd 6 rfl | exact hs.rowRd 7 rfl | exact hs.rowRd 8 rfl | exact hs.rowRd 9 rfl | exact hs.rowRd 10 rfl | exact hs.rowRd 11 rfl | exact hs.rowRd 12 rfl | exact hs.rowRd 13 rfl | exact Rd.st (by assumption) hs) (by first | exact hs.rowRd 0 rfl | exact hs.rowRd 1 rfl | exact hs.rowRd 2 rfl | exact hs.rowRd 3 rfl | exact hs.rowRd 4 rfl | exact hs.rowRd 5 rfl | exact hs.rowRd 6 rfl | exact hs.rowRd 7 rfl | exact hs.rowRd 8 rfl | exact hs.rowRd 9 rfl | exact hs.rowRd 10 rfl | exact hs.rowRd 11 rfl | exact hs.rowRd 12 rfl | exact hs.rowRd 13 rfl | exact Rd.st (by assumption) hs)) rfl rfl ?_
      refine S_val rfl rfl (Y_not rfl rfl) ?_
      refine S_nx ?_
      refine T_cond_true rfl ?_
      refine T_region ?_
      refine S_mv rfl rfl rfl ?_
      refine S_mv rfl rfl rfl ?_
      refine S_callR _ rfl rfl (bod rfl) (fun w hs => mn _ _ (by first | exact hs.rowRd 0 rfl | exact hs.rowRd 1 rfl | exact hs.rowRd 2 rfl | exact hs.rowRd 3 rfl | exact hs.rowRd 4 rfl | exact hs.rowRd 5 rfl | exact hs.rowRd 6 rfl | exact hs.rowRd 7 rfl | exact hs.rowRd 8 rfl | exact hs.rowRd 9 rfl | exact hs.rowRd 10 rfl | exact hs.rowRd 11 rfl | exact hs.rowRd 12 rfl | exact hs.rowRd 13 rfl | exact Rd.st (by assumption) hs) (by first | exact hs.rowRd 0 rfl | exact hs.rowRd 1 rfl | exact hs.rowRd 2 rfl | exact hs.rowRd 3 rfl | exact hs.rowRd 4 rfl | exact hs.rowRd 5 rfl | exact hs.rowRd 6 rfl | exact hs.rowRd 7 rfl | exact hs.rowRd 8 rfl | exact hs.rowRd 9 rfl | exact hs.rowRd 10 rfl | exact hs.rowRd 11 rfl | exact hs.rowRd 12 rfl | exact hs.rowRd 13 rfl | exact Rd.st (by assumption) hs)) rfl rfl fun _ => ?_
      refine S_as rfl rfl rfl ?_
      refine S_nil ?_
      refine X_blk ?_
      refine X_seq ?_
      refine T_region ?_
      refine S_mv rfl rfl rfl ?_
      refine S_val rfl rfl (Y_sub rfl rfl (wi64 (by omega) (by omega))) ?_
      refine S_as rfl rfl rfl ?_
      refine S_nil ?_
      refine X_loop ?_
      exact ⟨(i, _), by dsimp only; omega, by dsimp only; omega, (by repeat (first | exact Env.sub_nil _ | (apply Env.sub_cons; rfl))), by dsimp only; rw [hstep]; exact Emb.one 2 rfl⟩
end Go.Proofs.YtjolmphkmfbpbaaDoor
/- Package modexp: Pow. -/
namespace Go.Proofs.YtjolmphkmfbpbaaDoor
open Go.RowKit
set_option maxRecDepth 20000
set_option maxHeartbeats 4000000
def powN (b e m : Nat) : Nat := if m = 0 then 0 else b ^ e % m
/-- What Pow hands back. -/
def PowR (k x : Nat) (r : Value) (N : Hp) : Prop := ∃ u, r = .tuple #[u, .int .i64 0] ∧ N = [row .u8 (bel k x) u]
theorem tr_bytes {k x : Nat} (hx : x < 256 ^ k) (hk : k ≤ 64) : tr x ≤ 16 := tr_le (by
  rw [show (4294967296 : Nat) ^ 16 = 256 ^ 64 by decide +kernel]
  exact Nat.lt_of_lt_of_le hx (Nat.pow_le_pow_right (by omega) hk))
theorem tr_mod {x m : Nat} (hm : m ≠ 0) : tr (x % m) ≤ tr m := tr_mono (Nat.le_of_lt (Nat.mod_lt _ (by omega)))
theorem pow_bit (b m P c t bit : Nat) (hbit : c / 2 ^ t % 2 = bit) :
    b ^ (P * 2 ^ (8 - t) + c / 2 ^ t) % m = if t + 1 ≤ 8 then (if bit = 1 then b ^ (P * 2 ^ (8 - (t + 1)) + c / 2 ^ (t + 1)) % m * (b ^ (P * 2 ^ (8 - (t + 1)) + c / 2 ^ (t + 1)) % m) % m * (b % m) % m else b ^ (P * 2 ^ (8 - (t + 1)) + c / 2 ^ (t + 1)) % m * (b ^ (P * 2 ^ (8 - (t + 1)) + c / 2 ^ (t + 1)) % m) % m) else b ^ (P * 2 ^ (8 - t) + c / 2 ^ t) % m := by
  split
  · rename_i ht
    have e : P * 2 ^ (8 - t) + c / 2 ^ t = (P * 2 ^ (8 - (t + 1)) + c / 2 ^ (t + 1)) + (P * 2 ^ (8 - (t + 1)) + c / 2 ^ (t + 1)) + bit := by
      rw [show 8 - t = (8 - (t + 1)) + 1 by omega, Nat.pow_succ, ← Nat.mul_assoc, Nat.pow_succ 2 t, ← Nat.div_div_eq_div_mul]
      generalize P * 2 ^ (8 - (t + 1)) = A
      generalize c / 2 ^ t = q at *
      omega
    have hb : bit = 0 ∨ bit = 1 := by omega
    rw [e, Nat.pow_add, Nat.pow_add]
    generalize b ^ (P * 2 ^ (8 - (t + 1)) + c / 2 ^ (t + 1)) = z
    rcases hb with rfl | rfl
    · rw [if_neg (by omega), Nat.pow_zero, Nat.mul_one, Nat.mul_mod]
    · rw [if_pos rfl, Nat.pow_one, Nat.mul_mod (z * z) b, Nat.mul_mod z z]
  · rfl
theorem mpow_any (i0 b n e k M : Nat) (hb : b < 256 ^ i0) (he : e < 256 ^ n) (hM : M < 256 ^ k) (hi : i0 ≤ 64) (hn : n ≤ 64) (hk : k ≤ 64) (v0 v1 v2 : Value) (w : World)
    (r0 : Rd w v0 .u8 (bel i0 b)) (r1 : Rd w v1 .u8 (bel n e)) (r2 : Rd w v2 .u8 (bel k M)) : Fn Tryd.prog 24 #[v0, v1, v2] w (PowR k (powN b e M)) := by
  have o2 := fun w h => mof_any k M hM (by omega) v2 w h
  have htm := tr_bytes hM hk
  by_cases h0 : M = 0
  · have hp : powN b e M = 0 := if_pos h0
    rw [hp]
    subst h0
    refine Fn_of (args := [v0, v1, v2]) Tryd.func24 rfl Tryd.ntmps24 Tryd.results24 (by simp) ?_
    refine T_sr ?_
    refine S_as rfl rfl rfl ?_
    refine S_as rfl rfl rfl ?_
    refine S_nx ?_
    refine T_seq ?_
    refine T_sr ?_
    refine S_mv rfl rfl rfl ?_
    refine S_val rfl rfl (Y_lenV rfl (und rfl) rfl (fun _ hs => Rd.st (by assumption) hs) (bel_length _ _)) ?_
    refine S_val rfl rfl (Y_gtr_f rfl rfl (by omega)) ?_
    refine S_mv rfl rfl rfl ?_
    refine S_mv rfl rfl rfl ?_
    refine S_val rfl rfl (Y_lenV rfl (und rfl) rfl (fun _ hs => Rd.st (by assumption) hs) (bel_length _ _)) ?_
    refine S_val rfl rfl (Y_gtr_f rfl rfl (by omega)) ?_
    refine S_val rfl rfl (Y_pick_f rfl rfl) ?_
    refine S_mv rfl rfl rfl ?_
    refine S_mv rfl rfl rfl ?_
    refine S_val rfl rfl (Y_lenV rfl (und rfl) rfl (fun _ hs => Rd.st (by assumption) hs) (bel_length _ _)) ?_
    refine S_val rfl rfl (Y_gtr_f rfl rfl (by omega)) ?_
    refine S_val rfl rfl (Y_pick_f rfl rfl) ?_
    refine S_nx ?_
    refine T_cond_false rfl ?_
    refine T_skip ?_
    refine X_seq ?_
    refine T_sr ?_
    refine S_mv rfl rfl rfl ?_
    refine S_callR _ rfl rfl (bod rfl) (fun w hs => o2 _ (by first | exact hs.rowRd 0 rfl | exact hs.rowRd 1 rfl | exact hs.rowRd 2 rfl | exact hs.rowRd 3 rfl | exact hs.rowRd 4 rfl | exact hs.rowRd 5 rfl | exact hs.rowRd 6 rfl | exact hs.rowRd 7 rfl | exact hs.rowRd 8 rfl | exact hs.rowRd 9 rfl | exact hs.rowRd 10 rfl | exact hs.rowRd 11 rfl | exact hs.rowRd 12 rfl | exact hs.rowRd 13 rfl | exact Rd.st (by assumption) hs)) rfl rfl fun _ => ?_
    refine S_as rfl rfl rfl ?_
    refine S_nx ?_
    refine T_seq ?_
    refine T_sr ?_
    refine S_mv rfl rfl rfl ?_
    refine S_val rfl rfl (Y_lenV rfl (und rfl) rfl (fun _ hs => hs.rowRd 0 rfl) (dl_length _ _ _)) ?_
    refine S_val rfl rfl (Y_eql_t rfl rfl (by decide)) ?_
    refine S_nx ?_
    refine T_cond_true rfl ?_
    refine T_sr ?_
    refine S_mv rfl rfl rfl ?_
    refine S_val rfl rfl (Y_lenV rfl (und rfl) rfl (fun _ hs => Rd.st (by assumption) hs) (bel_length _ _)) ?_
    refine S_makeR (und rfl) (siz rfl) (byt rfl) (zer rfl) rfl rfl (nat_cast _) (by omega) rfl rfl rfl fun _ => ?_
    refine S_as rfl rfl rfl ?_
    refine S_as rfl rfl rfl ?_
    refine S_nx ?_
    refine T_ret ?_
    refine X_seq_ret ?_
    ((first | refine X_fin_ret ?_ | refine X_fin ?_); exact ⟨[_, _], [_], .cons (.tmp rfl) (.cons (.tmp rfl) .nil), Emb.one 1 rfl, ⟨_, rfl, by rw [bel_zero]⟩⟩)
  · have hp : powN b e M = b ^ e % M := if_neg h0
    have htp := tr_pos h0
    have hte : ¬ ((tr M : Nat) : Int) = 0 := by omega
    have o0 := fun w h => mof_any i0 b hb (by omega) v0 w h
    have hb16 := tr_bytes hb hi
    have m0 := fun v u w h h' => mmod_any b M (tr b) (tr_lt _) h0 (by omega) (by omega) v u w h h'
    have m1 := fun v u w h h' => mmod_any 1 M 1 (by omega) h0 (by omega) (by omega) v u w h h'
    have he0 : e / 256 ^ (n - 0) = 0 := Nat.div_eq_of_lt he
    refine Fn_of (args := [v0, v1, v2]) Tryd.func24 rfl Tryd.ntmps24 Tryd.results24 (by simp) ?_
    refine T_sr ?_
    refine S_as rfl rfl rfl ?_
    refine S_as rfl rfl rfl ?_
    refine S_nx ?_
    refine T_seq ?_
    refine T_sr ?_
    refine S_mv rfl rfl rfl ?_
    refine S_val rfl rfl (Y_lenV rfl (und rfl) rfl (fun _ hs => Rd.st (by assumption) hs) (bel_length _ _)) ?_
    refine S_val rfl rfl (Y_gtr_f rfl rfl (by omega)) ?_
    refine S_mv rfl rfl rfl ?_
    refine S_mv rfl rfl rfl ?_
    refine S_val rfl rfl (Y_lenV rfl (und rfl) rfl (fun _ hs => Rd.st (by assumption) hs) (bel_length _ _)) ?_
    refine S_val rfl rfl (Y_gtr_f rfl rfl (by omega)) ?_
    refine S_val rfl rfl (Y_pick_f rfl rfl) ?_
    refine S_mv rfl rfl rfl ?_
    refine S_mv rfl rfl rfl ?_
    refine S_val rfl rfl (Y_lenV rfl (und rfl) rfl (fun _ hs => Rd.st (by assumption) hs) (bel_length _ _)) ?_
    refine S_val rfl rfl (Y_gtr_f rfl rfl (by omega)) ?_
    refine S_val rfl rfl (Y_pick_f rfl rfl) ?_
    refine S_nx ?_
    refine T_cond_false rfl ?_
    refine T_skip ?_
    refine X_seq ?_
    refine T_sr ?_
    refine S_mv rfl rfl rfl ?_
    refine S_callR _ rfl rfl (bod rfl) (fun w hs => o2 _ (by first | exact hs.rowRd 0 rfl | exact hs.rowRd 1 rfl | exact hs.rowRd 2 rfl | exact hs.rowRd 3 rfl | exact hs.rowRd 4 rfl | exact hs.rowRd 5 rfl | exact hs.rowRd 6 rfl | exact hs.rowRd 7 rfl | exact hs.rowRd 8 rfl | exact hs.rowRd 9 rfl | exact hs.rowRd 10 rfl | exact hs.rowRd 11 rfl | exact hs.rowRd 12 rfl | exact hs.rowRd 13 rfl | exact Rd.st (by assumption) hs)) rfl rfl fun _ => ?_
    refine S_as rfl rfl rfl ?_
    refine S_nx ?_
    refine T_seq ?_
    refine T_sr ?_
    refine S_mv rfl rfl rfl ?_
    refine S_val rfl rfl (Y_lenV rfl (und rfl) rfl (fun _ hs => hs.rowRd 0 rfl) (dl_length _ _ _)) ?_
    refine S_val rfl rfl (Y_eql_f rfl rfl (by assumption)) ?_
    refine S_nx ?_
    refine T_cond_false rfl ?_
    refine T_skip ?_
    refine X_seq ?_
    refine T_sr ?_
    refine S_mv rfl rfl rfl ?_
    refine S_callR _ rfl rfl (bod rfl) (fun w hs => o0 _ (by first | exact hs.rowRd 0 rfl | exact hs.rowRd 1 rfl | exact hs.rowRd 2 rfl | exact hs.rowRd 3 rfl | exact hs.rowRd 4 rfl | exact hs.rowRd 5 rfl | exact hs.rowRd 6 rfl | exact hs.rowRd 7 rfl | exact hs.rowRd 8 rfl | exact hs.rowRd 9 rfl | exact hs.rowRd 10 rfl | exact hs.rowRd 11 rfl | exact hs.rowRd 12 rfl | exact hs.rowRd 13 rfl | exact Rd.st (by assumption) hs)) rfl rfl fun _ => ?_
    refine S_mv rfl rfl rfl ?_
    refine S_callR _ rfl rfl (bod rfl) (fun w hs => m0 _ _ _ (by first | exact hs.rowRd 0 rfl | exact hs.rowRd 1 rfl | exact hs.rowRd 2 rfl | exact hs.rowRd 3 rfl | exact hs.rowRd 4 rfl | exact hs.rowRd 5 rfl | exact hs.rowRd 6 rfl | exact hs.rowRd 7 rfl | exact hs.rowRd 8 rfl | exact hs.rowRd 9 rfl | exact hs.rowRd 10 rfl | exact hs.rowRd 11 rfl | exact hs.rowRd 12 rfl | exact hs.rowRd 13 rfl | exact Rd.st (by assumption) hs) (by first | exact hs.rowRd 0 rfl | exact hs.rowRd 1 rfl | exact hs.rowRd 2 rfl | exact hs.rowRd 3 rfl | exact hs.rowRd 4 rfl | exact hs.rowRd 5 rfl | exact hs.rowRd 6 rfl | exact hs.rowRd 7 rfl | exact hs.rowRd 8 rfl | exact hs.rowRd 9 rfl | exact hs.rowRd 10 rfl | exact hs.rowRd 11 rfl | exact hs.rowRd 12 rfl | exact hs.rowRd 13 rfl | exact Rd.st (by assumption) hs)) rfl rfl fun _ => ?_
    refine S_sliceR (und rfl) (siz rfl) (zer rfl) rfl rfl rfl rfl fun _ => ?_
    refine S_mv rfl rfl rfl ?_
    refine S_callR _ rfl rfl (bod rfl) (fun w hs => m1 _ _ _ (hs.rowRd 3 rfl) (by first | exact hs.rowRd 0 rfl | exact hs.rowRd 1 rfl | exact hs.rowRd 2 rfl | exact hs.rowRd 3 rfl | exact hs.rowRd 4 rfl | exact hs.rowRd 5 rfl | exact hs.rowRd 6 rfl | exact hs.rowRd 7 rfl | exact hs.rowRd 8 rfl | exact hs.rowRd 9 rfl | exact hs.rowRd 10 rfl | exact hs.rowRd 11 rfl | exact hs.rowRd 12 rfl | exact hs.rowRd 13 rfl | exact Rd.st (by assumption) hs)) rfl rfl fun _ => ?_
    refine S_as rfl rfl rfl ?_
    refine S_as rfl rfl rfl ?_
    refine S_nx ?_
    refine T_seq ?_
    refine T_sr ?_
    refine S_mv rfl rfl rfl ?_
    refine S_val rfl rfl (Y_lenV rfl (und rfl) rfl (fun _ hs => Rd.st (by assumption) hs) (bel_length _ _)) ?_
    refine S_mv rfl rfl rfl ?_
    refine S_nx ?_
    refine T_block ?_
    rename_i vm _ vb _ vo0
    refine T_loopE (α := Nat × Value) (fun a => a.1 ≤ n)
      (fun a => [(2, v2), (8, vm), (9, vb), (10, a.2), (42, v1), (43, .int .i64 n), (44, .int .i64 a.1)])
      (fun a => [row .u32 (dl 4294967296 (tr M) M) vm, row .u32 (dl 4294967296 (tr (b % M)) (b % M)) vb, row .u32 (dl 4294967296 (tr (b ^ (e / 256 ^ (n - a.1)) % M)) (b ^ (e / 256 ^ (n - a.1)) % M)) a.2])
      (fun a => n - a.1) (0, vo0) (by dsimp only; omega) (by repeat (first | exact Env.sub_nil _ | (apply Env.sub_cons; rfl))) (by dsimp only; rw [he0, Nat.pow_zero]; exact Emb.idx [0, 2, 4] rfl rfl) ?_
    rintro ⟨i, vo⟩ hi2
    dsimp only at hi2 ⊢
    by_cases h : i < n
    · obtain ⟨c, hcd⟩ : ∃ c, c = e / 256 ^ (n - 1 - i) % 256 := ⟨_, rfl⟩
      have hc : c < 256 := by rw [hcd]; exact Nat.mod_lt _ (by omega)
      have hnext : b ^ (e / 256 ^ (n - i) * 2 ^ (8 - 0) + c / 2 ^ 0) % M = b ^ (e / 256 ^ (n - (i + 1))) % M := by
        have h1 : e / 256 ^ (n - i) = e / 256 ^ (n - 1 - i) / 256 := by
          rw [show n - i = (n - 1 - i) + 1 by omega, Nat.pow_succ, Nat.div_div_eq_div_mul]
        rw [h1, hcd, show n - (i + 1) = n - 1 - i by omega]
        congr 2
        omega
      have hfirst : e / 256 ^ (n - i) * 2 ^ (8 - 8) + c / 2 ^ 8 = e / 256 ^ (n - i) := by
        rw [Nat.div_eq_of_lt (show c < 2 ^ 8 by omega)]
        simp
      clear he0 o0 o2 m0 m1 hte hp
      refine T_sr ?_
      refine S_val rfl rfl (Y_lss_t rfl rfl (by omega)) ?_
      refine S_nx ?_
      refine T_seq ?_
      refine T_cond_true rfl ?_
      refine T_skip ?_
      refine X_seq ?_
      refine T_seq ?_
      refine T_block ?_
      refine T_sr ?_
      refine S_val rfl rfl (Y_ixV (und rfl) (siz rfl) rfl rfl (fun _ hs => Rd.st (by assumption) hs) (nat_cast _) (by simp; omega)) ?_
      refine S_val rfl rfl (Y_loadV (und rfl) rfl rfl (fun _ hs => Rd.st (by assumption) hs) (bel_get (by assumption))) ?_
      refine S_as rfl rfl rfl ?_
      refine S_nx ?_
      refine T_sr ?_
      refine S_as rfl rfl rfl ?_
      refine S_nx ?_
      refine T_block ?_
      rw [← hcd]
      clear hcd
      refine T_loopE (α := Nat × Value) (fun a => a.1 ≤ 8)
        (fun a => [(2, v2), (8, vm), (9, vb), (10, a.2), (12, .int .u8 c), (13, .int .i64 ((a.1 : Int) - 1)), (42, v1), (43, .int .i64 n), (44, .int .i64 i)])
        (fun a => [row .u32 (dl 4294967296 (tr M) M) vm, row .u32 (dl 4294967296 (tr (b % M)) (b % M)) vb, row .u32 (dl 4294967296 (tr (b ^ (e / 256 ^ (n - i) * 2 ^ (8 - a.1) + c / 2 ^ a.1) % M)) (b ^ (e / 256 ^ (n - i) * 2 ^ (8 - a.1) + c / 2 ^ a.1) % M)) a.2])
        (fun a => a.1) (8, vo) (Nat.le_refl _) (by repeat (first | exact Env.sub_nil _ | (apply Env.sub_cons; rfl))) (by dsimp only; rw [hfirst]; exact Emb.refl _) ?_
      clear hfirst
      rintro ⟨k, vo⟩ hk
      dsimp only at hk ⊢
      by_cases h2 : k = 0
      · subst h2
        refine T_seq ?_
        refine T_sr ?_
        refine S_mv rfl rfl rfl ?_
        refine S_val rfl rfl (Y_geq_f rfl rfl (by decide)) ?_
        refine S_nx ?_
        refine T_cond_false rfl ?_
        refine T_exit ?_
        refine X_seq_exit ?_
        refine X_loop_exit ?_
        refine X_blk_hit rfl ?_
        refine X_blk ?_
        refine X_seq ?_
        refine T_region ?_
        refine S_val rfl rfl (Y_addN rfl rfl (nat_cast _) (nat_lit' _) (by omega)) ?_
        refine S_mv rfl rfl rfl ?_
        refine S_nil ?_
        refine X_loop ?_
        refine ⟨(i + 1, vo), by dsimp only; omega, by dsimp only; omega, (by repeat (first | exact Env.sub_nil _ | (apply Env.sub_cons; rfl))), ?_⟩
        dsimp only
        rw [← hnext]
        exact Emb.refl _
      · obtain ⟨t, rfl⟩ : ∃ t, k = t + 1 := ⟨k - 1, by omega⟩
        rw [show (((t + 1 : Nat) : Int) - 1) = (t : Int) by omega]
        have hb := pow_bit b M (e / 256 ^ (n - i)) c t _ rfl
        rw [if_pos (by omega)] at hb
        have hc2 : c / 2 ^ t < 256 := Nat.lt_of_le_of_lt (Nat.div_le_self _ _) hc
        have tz : tr (b ^ (e / 256 ^ (n - i) * 2 ^ (8 - (t + 1)) + c / 2 ^ (t + 1)) % M) ≤ 16 := Nat.le_trans (tr_mod h0) htm
        generalize b ^ (e / 256 ^ (n - i) * 2 ^ (8 - (t + 1)) + c / 2 ^ (t + 1)) % M = z at *
        have m1 := fun v w h => mtimes_any z z (tr z) (tr z) (tr_lt _) (tr_lt _) (by omega) (by omega) v v w h h
        have m2 := fun v u w h h' => mmod_any (z * z) M (tr (z * z)) (tr_lt _) h0 (by
          have : z * z < 4294967296 ^ (tr z + tr z) := by rw [Nat.pow_add]; exact Nat.mul_lt_mul'' (tr_lt _) (tr_lt _)
          have := tr_le this
          omega) (by omega) v u w h h'
        have tz2 : tr (z * z % M) ≤ 16 := Nat.le_trans (tr_mod h0) htm
        rcases Nat.mod_two_eq_zero_or_one (c / 2 ^ t) with hbit | hbit
        · rw [hbit, if_neg (by omega)] at hb
          have hbi : ¬ ((c / 2 ^ t &&& 1 : Nat) : Int) = 1 := by rw [Nat.and_one_is_mod, hbit]; omega
          clear hbit hnext
          generalize hyy : z * z % M = y at *
          generalize z * z = zz at *
          refine T_seq ?_
          refine T_sr ?_
          refine S_mv rfl rfl rfl ?_
          refine S_val rfl rfl (Y_geq_t rfl rfl (by omega)) ?_
          refine S_nx ?_
          refine T_cond_true rfl ?_
          refine T_skip ?_
          refine X_seq ?_
          refine T_seq ?_
          refine T_block ?_
          refine T_sr ?_
          refine S_mv rfl rfl rfl ?_
          refine S_mv rfl rfl rfl ?_
          refine S_callR _ rfl rfl (bod rfl) (fun w hs => m1 _ _ (by first | exact hs.rowRd 0 rfl | exact hs.rowRd 1 rfl | exact hs.rowRd 2 rfl | exact hs.rowRd 3 rfl | exact hs.rowRd 4 rfl | exact hs.rowRd 5 rfl | exact hs.rowRd 6 rfl | exact hs.rowRd 7 rfl | exact hs.rowRd 8 rfl | exact hs.rowRd 9 rfl | exact hs.rowRd 10 rfl | exact hs.rowRd 11 rfl | exact hs.rowRd 12 rfl | exact hs.rowRd 13 rfl | exact Rd.st (by assumption) hs)) rfl rfl fun _ => ?_
          refine S_mv rfl rfl rfl ?_
          refine S_callR _ rfl rfl (bod rfl) (fun w hs => m2 _ _ _ (by first | exact hs.rowRd 0 rfl | exact hs.rowRd 1 rfl | exact hs.rowRd 2 rfl | exact hs.rowRd 3 rfl | exact hs.rowRd 4 rfl | exact hs.rowRd 5 rfl | exact hs.rowRd 6 rfl | exact hs.rowRd 7 rfl | exact hs.rowRd 8 rfl | exact hs.rowRd 9 rfl | exact hs.rowRd 10 rfl | exact hs.rowRd 11 rfl | exact hs.rowRd 12 rfl | exact hs.rowRd 13 rfl | exact Rd.st (by assumption) hs) (by first | exact hs.rowRd 0 rfl | exact hs.rowRd 1 rfl | exact hs.rowRd 2 rfl | exact hs.rowRd 3 rfl | exact hs.rowRd 4 rfl | exact hs.rowRd 5 rfl | exact hs.rowRd 6 rfl | exact hs.rowRd 7 rfl | exact hs.rowRd 8 rfl | exact hs.rowRd 9 rfl | exact hs.rowRd 10 rfl | exact hs.rowRd 11 rfl | exact hs.rowRd 12 rfl | exact hs.rowRd 13 rfl | exact Rd.st (by assumption) hs)) rfl rfl fun _ => ?_
          refine S_as rfl rfl rfl ?_
          refine S_nx ?_
          refine T_sr ?_
          refine S_mv rfl rfl rfl ?_
          refine S_mv rfl rfl rfl ?_
          refine S_val rfl rfl (Y_shrN rfl rfl (nat_cast _) (nat_cast _) (by simp only [IntKind.bits]; assumption)) ?_
          refine S_val rfl rfl (Y_and rfl rfl (nat_cast _) (nat_lit' _) rfl (by simp only [IntKind.bits]; assumption) (by simp only [IntKind.bits]; omega)) ?_
          refine S_val rfl rfl (Y_eql_f rfl rfl (by assumption)) ?_
          refine S_nx ?_
          refine T_cond_false rfl ?_
          refine T_skip ?_
          refine X_blk ?_
          refine X_seq ?_
          refine T_region ?_
          refine S_mv rfl rfl rfl ?_
          refine S_val rfl rfl (Y_sub rfl rfl (wi64 (by omega) (by omega))) ?_
          refine S_as rfl rfl rfl ?_
          refine S_nil ?_
          refine X_loop ?_
          exact ⟨(t, _), by dsimp only; omega, by dsimp only; omega, (by repeat (first | exact Env.sub_nil _ | (apply Env.sub_cons; rfl))), by dsimp only; rw [hb]; exact Emb.idx [0, 1, 4] rfl rfl⟩
        · rw [hbit, if_pos rfl] at hb
          have hbi : ((c / 2 ^ t &&& 1 : Nat) : Int) = 1 := by rw [Nat.and_one_is_mod, hbit]; rfl
          clear hbit hnext
          generalize hyy : z * z % M = y at *
          generalize z * z = zz at *
          have tb : tr (b % M) ≤ 16 := Nat.le_trans (tr_mod h0) htm
          generalize b % M = br at *
          have m3 := fun v u w h h' => mtimes_any y br (tr y) (tr br) (tr_lt _) (tr_lt _) (by omega) (by omega) v u w h h'
          have m4 := fun v u w h h' => mmod_any (y * br) M (tr (y * br)) (tr_lt _) h0 (by
            have : y * br < 4294967296 ^ (tr y + tr br) := by rw [Nat.pow_add]; exact Nat.mul_lt_mul'' (tr_lt _) (tr_lt _)
            have := tr_le this
            omega) (by omega) v u w h h'
          generalize hyb : y * br % M = y2 at *
          generalize y * br = yb at *
          refine T_seq ?_
          refine T_sr ?_
          refine S_mv rfl rfl rfl ?_
          refine S_val rfl rfl (Y_geq_t rfl rfl (by omega)) ?_
          refine S_nx ?_
          refine T_cond_true rfl ?_
          refine T_skip ?_
          refine X_seq ?_
          refine T_seq ?_
          refine T_block ?_
          refine T_sr ?_
          refine S_mv rfl rfl rfl ?_
          refine S_mv rfl rfl rfl ?_
          refine S_callR _ rfl rfl (bod rfl) (fun w hs => m1 _ _ (by first | exact hs.rowRd 0 rfl | exact hs.rowRd 1 rfl | exact hs.rowRd 2 rfl | exact hs.rowRd 3 rfl | exact hs.rowRd 4 rfl | exact hs.rowRd 5 rfl | exact hs.rowRd 6 rfl | exact hs.rowRd 7 rfl | exact hs.rowRd 8 rfl | exact hs.rowRd 9 rfl | exact hs.rowRd 10 rfl | exact hs.rowRd 11 rfl | exact hs.rowRd 12 rfl | exact hs.rowRd 13 rfl | exact Rd.st (by assumption) hs)) rfl rfl fun _ => ?_
          refine S_mv rfl rfl rfl ?_
          refine S_callR _ rfl rfl (bod rfl) (fun w hs => m2 _ _ _ (by first | exact hs.rowRd 0 rfl | exact hs.rowRd 1 rfl | exact hs.rowRd 2 rfl | exact hs.rowRd 3 rfl | exact hs.rowRd 4 rfl | exact hs.rowRd 5 rfl | exact hs.rowRd 6 rfl | exact hs.rowRd 7 rfl | exact hs.rowRd 8 rfl | exact hs.rowRd 9 rfl | exact hs.rowRd 10 rfl | exact hs.rowRd 11 rfl | exact hs.rowRd 12 rfl | exact hs.rowRd 13 rfl | exact Rd.st (by assumption) hs) (by first | exact hs.rowRd 0 rfl | exact hs.rowRd 1 rfl | exact hs.rowRd 2 rfl | exact hs.rowRd 3 rfl | exact hs.rowRd 4 rfl | exact hs.rowRd 5 rfl | exact hs.rowRd 6 rfl | exact hs.rowRd 7 rfl | exact hs.rowRd 8 rfl | exact hs.rowRd 9 rfl | exact hs.rowRd 10 rfl | exact hs.rowRd 11 rfl | exact hs.rowRd 12 rfl | exact hs.rowRd 13 rfl | exact Rd.st (by assumption) hs)) rfl rfl fun _ => ?_
          refine S_as rfl rfl rfl ?_
          refine S_nx ?_
          refine T_sr ?_
          refine S_mv rfl rfl rfl ?_
          refine S_mv rfl rfl rfl ?_
          refine S_val rfl rfl (Y_shrN rfl rfl (nat_cast _) (nat_cast _) (by simp only [IntKind.bits]; assumption)) ?_
          refine S_val rfl rfl (Y_and rfl rfl (nat_cast _) (nat_lit' _) rfl (by simp only [IntKind.bits]; assumption) (by simp only [IntKind.bits]; omega)) ?_
          refine S_val rfl rfl (Y_eql_t rfl rfl (by assumption)) ?_
          refine S_nx ?_
          refine T_cond_true rfl ?_
          refine T_region ?_
          refine S_mv rfl rfl rfl ?_
          refine S_mv rfl rfl rfl ?_
          refine S_callR _ rfl rfl (bod rfl) (fun w hs => m3 _ _ _ (by first | exact hs.rowRd 0 rfl | exact hs.rowRd 1 rfl | exact hs.rowRd 2 rfl | exact hs.rowRd 3 rfl | exact hs.rowRd 4 rfl | exact hs.rowRd 5 rfl | exact hs.rowRd 6 rfl | exact hs.rowRd 7 rfl | exact hs.rowRd 8 rfl | exact hs.rowRd 9 rfl | exact hs.rowRd 10 rfl | exact hs.rowRd 11 rfl | exact hs.rowRd 12 rfl | exact hs.rowRd 13 rfl | exact Rd.st (by assumption) hs) (by first | exact hs.rowRd 0 rfl | exact hs.rowRd 1 rfl | exact hs.rowRd 2 rfl | exact hs.rowRd 3 rfl | exact hs.rowRd 4 rfl | exact hs.rowRd 5 rfl | exact hs.rowRd 6 rfl | exact hs.rowRd 7 rfl | exact hs.rowRd 8 rfl | exact hs.rowRd 9 rfl | exact hs.rowRd 10 rfl | exact hs.rowRd 11 rfl | exact hs.rowRd 12 rfl | exact hs.rowRd 13 rfl | exact Rd.st (by assumption) hs)) rfl rfl fun _ => ?_
          refine S_mv rfl rfl rfl ?_
          refine S_callR _ rfl rfl (bod rfl) (fun w hs => m4 _ _ _ (by first | exact hs.rowRd 0 rfl | exact hs.rowRd 1 rfl | exact hs.rowRd 2 rfl | exact hs.rowRd 3 rfl | exact hs.rowRd 4 rfl | exact hs.rowRd 5 rfl | exact hs.rowRd 6 rfl | exact hs.rowRd 7 rfl | exact hs.rowRd 8 rfl | exact hs.rowRd 9 rfl | exact hs.rowRd 10 rfl | exact hs.rowRd 11 rfl | exact hs.rowRd 12 rfl | exact hs.rowRd 13 rfl | exact Rd.st (by assumption) hs) (by first | exact hs.rowRd 0 rfl | exact hs.rowRd 1 rfl | exact hs.rowRd 2 rfl | exact hs.rowRd 3 rfl | exact hs.rowRd 4 rfl | exact hs.rowRd 5 rfl | exact hs.rowRd 6 rfl | exact hs.rowRd 7 rfl | exact hs.rowRd 8 rfl | exact hs.rowRd 9 rfl | exact hs.rowRd 10 rfl | exact hs.rowRd 11 rfl | exact hs.rowRd 12 rfl | exact hs.rowRd 13 rfl | exact Rd.st (by assumption) hs)) rfl rfl fun _ => ?_
          refine S_as rfl rfl rfl ?_
          refine S_nil ?_
          refine X_blk ?_
          refine X_seq ?_
          refine T_region ?_
          refine S_mv rfl rfl rfl ?_
          refine S_val rfl rfl (Y_sub rfl rfl (wi64 (by omega) (by omega))) ?_
          refine S_as rfl rfl rfl ?_
          refine S_nil ?_
          refine X_loop ?_
          exact ⟨(t, _), by dsimp only; omega, by dsimp only; omega, (by repeat (first | exact Env.sub_nil _ | (apply Env.sub_cons; rfl))), by dsimp only; rw [hb]; exact Emb.idx [0, 1, 6] rfl rfl⟩
    · obtain rfl : i = n := by omega
      rw [hp, Nat.sub_self, Nat.pow_zero, Nat.div_one]
      have bt := fun v w h => mbytes_any (b ^ e % M) (tr (b ^ e % M)) k (tr_lt _) (by have := tr_mod (x := b ^ e) h0; omega) (by omega) v w h
      generalize b ^ e % M = z at *
      clear he0 o0 o2 m0 m1 hte hp
      refine T_sr ?_
      refine S_val rfl rfl (Y_lss_f rfl rfl (by omega)) ?_
      refine S_nx ?_
      refine T_seq ?_
      refine T_cond_false rfl ?_
      refine T_exit ?_
      refine X_seq_exit ?_
      refine X_loop_exit ?_
      refine X_blk_hit rfl ?_
      refine X_seq ?_
      refine T_sr ?_
      refine S_mv rfl rfl rfl ?_
      refine S_mv rfl rfl rfl ?_
      refine S_val rfl rfl (Y_lenV rfl (und rfl) rfl (fun _ hs => Rd.st (by assumption) hs) (bel_length _ _)) ?_
      refine S_callR _ rfl rfl (bod rfl) (fun w hs => bt _ _ (by first | exact hs.rowRd 0 rfl | exact hs.rowRd 1 rfl | exact hs.rowRd 2 rfl | exact hs.rowRd 3 rfl | exact hs.rowRd 4 rfl | exact hs.rowRd 5 rfl | exact hs.rowRd 6 rfl | exact hs.rowRd 7 rfl | exact hs.rowRd 8 rfl | exact hs.rowRd 9 rfl | exact hs.rowRd 10 rfl | exact hs.rowRd 11 rfl | exact hs.rowRd 12 rfl | exact hs.rowRd 13 rfl | exact Rd.st (by assumption) hs)) rfl rfl fun _ => ?_
      refine S_as rfl rfl rfl ?_
      refine S_as rfl rfl rfl ?_
      refine S_nx ?_
      refine T_ret ?_
      ((first | refine X_fin_ret ?_ | refine X_fin ?_); exact ⟨[_, _], [_], .cons (.tmp rfl) (.cons (.tmp rfl) .nil), Emb.one 3 rfl, ⟨_, rfl, rfl⟩⟩)
end Go.Proofs.YtjolmphkmfbpbaaDoor
/- Package modexp: the three lengths. -/
namespace Go.Proofs.YtjolmphkmfbpbaaDoor
open Go.RowKit
set_option maxRecDepth 20000
set_option maxHeartbeats 4000000
/-- The three words. -/
def w3 (a b c : Nat) : List Int := dl 18446744073709551616 4 a ++ (dl 18446744073709551616 4 b ++ dl 18446744073709551616 4 c)
@[simp] theorem w3_length (a b c : Nat) : (w3 a b c).length = 12 := by simp [w3]
theorem w3_0 (a b c : Nat) : ((w3 a b c).drop (0 + 0 * 4)).take 4 = dl 18446744073709551616 4 a := rfl
theorem w3_1 (a b c : Nat) : ((w3 a b c).drop (0 + 1 * 4)).take 4 = dl 18446744073709551616 4 b := rfl
theorem w3_2 (a b c : Nat) : ((w3 a b c).drop (0 + 2 * 4)).take 4 = dl 18446744073709551616 4 c := rfl
theorem w3_s0 (a b c z : Nat) : (w3 a b c).take (0 + 0 * 4) ++ dl 18446744073709551616 4 z ++ (w3 a b c).drop (0 + 0 * 4 + 4) = w3 z b c := rfl
theorem w3_s1 (a b c z : Nat) : (w3 a b c).take (0 + 1 * 4) ++ dl 18446744073709551616 4 z ++ (w3 a b c).drop (0 + 1 * 4 + 4) = w3 a z c := rfl
theorem w3_s2 (a b c z : Nat) : (w3 a b c).take (0 + 2 * 4) ++ dl 18446744073709551616 4 z ++ (w3 a b c).drop (0 + 2 * 4 + 4) = w3 a b z := rfl
theorem w3_zero : List.replicate 12 0 = w3 0 0 0 := by decide +kernel
theorem mlengths_any (n x : Nat) (hx : x < 256 ^ n) (hn : n ≤ 1000000) (v : Value) (w : World) (hr : Rd w v .u8 (bel n x)) :
    Fn Tryd.prog 21 #[v] w fun u N => u = .agg (ints .u64 (w3 (lenN n x 0) (lenN n x 1) (lenN n x 2))) ∧ N = [] := by
  have pt := fun k (hk : k ≤ 2) w h => mpart_any n x (32 * k) 32 hx hn (by omega) (by omega) v w h
  simp only [lenN_bel] at pt
  have fr := fun k v w h => wfrom_any 32 (lenN n x k) (lenN_lt n x k) (by omega) v w h
  simp only [fun k => Nat.mod_eq_of_lt (lenN_lt n x k)] at fr
  generalize lenN n x = l at *
  refine Fn_of (args := [v]) Tryd.func21 rfl Tryd.ntmps21 Tryd.results21 (by simp) ?_
  refine T_sr ?_
  refine S_allocA (zer rfl) rfl rfl fun _ => ?_
  refine S_nx ?_
  refine T_sr ?_
  refine S_allocA (zer rfl) rfl rfl fun _ => ?_
  refine S_nx ?_
  refine T_seq ?_
  refine T_sr ?_
  refine S_mv rfl rfl rfl ?_
  refine S_nx ?_
  refine T_block ?_
  rename_i b0 b1
  refine T_loopE (α := Nat × Nat × Nat × Nat) (fun a => a = (0, 0, 0, 0) ∨ a = (1, l 0, 0, 0) ∨ a = (2, l 0, l 1, 0) ∨ a = (3, l 0, l 1, l 2))
    (fun a => [(0, v), (2, .pointer (some ⟨b0, 0, none⟩)), (3, .pointer (some ⟨b1, 0, none⟩)), (5, .int .i64 a.1)])
    (fun a => [blk b0 (.cells (ints .u64 (List.replicate 12 0)) 51 (0, 0)), blk b1 (.cells (ints .u64 (w3 a.2.1 a.2.2.1 a.2.2.2)) 51 (0, 0))])
    (fun a => 3 - a.1) (0, 0, 0, 0) (.inl rfl) (by repeat (first | exact Env.sub_nil _ | (apply Env.sub_cons; rfl))) (by dsimp only; rw [← w3_zero]; exact Emb.refl _) ?_
  rintro _ (rfl | rfl | rfl | rfl)
  · dsimp only
    refine T_sr ?_
    refine S_val rfl rfl (Y_lss_t rfl rfl (by decide)) ?_
    refine S_nx ?_
    refine T_seq ?_
    refine T_cond_true rfl ?_
    refine T_skip ?_
    refine X_seq ?_
    refine T_seq ?_
    refine T_block ?_
    refine T_sr ?_
    refine S_mv rfl rfl rfl ?_
    refine S_as rfl rfl rfl ?_
    refine S_nx ?_
    refine T_region ?_
    refine S_mv rfl rfl rfl ?_
    refine S_mv rfl rfl rfl ?_
    refine S_mv rfl rfl rfl ?_
    refine S_val rfl rfl (Y_mulN rfl rfl (nat_lit' _) (nat_cast _) (Nat.le_of_ble_eq_true rfl)) ?_
    refine S_val rfl rfl (Y_conv (und rfl) (und rfl) rfl (wu64 (by omega) (by omega))) ?_
    refine S_callR _ rfl rfl (bod rfl) (fun w hs => pt 0 (by omega) _ (by first | exact hs.rowRd 0 rfl | exact hs.rowRd 1 rfl | exact hs.rowRd 2 rfl | exact hs.rowRd 3 rfl | exact hs.rowRd 4 rfl | exact hs.rowRd 5 rfl | exact hs.rowRd 6 rfl | exact hs.rowRd 7 rfl | exact hs.rowRd 8 rfl | exact hs.rowRd 9 rfl | exact hs.rowRd 10 rfl | exact hs.rowRd 11 rfl | exact hs.rowRd 12 rfl | exact hs.rowRd 13 rfl | exact Rd.st (by assumption) hs)) rfl rfl fun _ => ?_
    skip
    refine S_callV rfl rfl (bod rfl) (fun w hs => fr 0 _ _ (by first | exact hs.rowRd 0 rfl | exact hs.rowRd 1 rfl | exact hs.rowRd 2 rfl | exact hs.rowRd 3 rfl | exact hs.rowRd 4 rfl | exact hs.rowRd 5 rfl | exact hs.rowRd 6 rfl | exact hs.rowRd 7 rfl | exact hs.rowRd 8 rfl | exact hs.rowRd 9 rfl | exact hs.rowRd 10 rfl | exact hs.rowRd 11 rfl | exact hs.rowRd 12 rfl | exact hs.rowRd 13 rfl | exact Rd.st (by assumption) hs)) rfl rfl ?_
    refine S_val rfl rfl (Y_ixg (und rfl) (siz rfl) rfl rfl (nat_cast _) (Nat.le_of_ble_eq_true rfl)) ?_
    refine S_storePI 1 (siz rfl) rfl rfl rfl (dl_length _ _ _) (by rw [w3_length]; omega) (w3_s0 _ _ _ _) rfl ?_
    refine S_nil ?_
    refine X_blk ?_
    refine X_seq ?_
    refine T_region ?_
    refine S_val rfl rfl (Y_addN rfl rfl (nat_cast _) (nat_lit' _) (Nat.le_of_ble_eq_true rfl)) ?_
    refine S_mv rfl rfl rfl ?_
    refine S_nil ?_
    refine X_loop ?_
    exact ⟨(1, l 0, 0, 0), by simp, by dsimp only; omega, (by repeat (first | exact Env.sub_nil _ | (apply Env.sub_cons; rfl))), Emb.idx [0, 1] rfl rfl⟩
  · dsimp only
    refine T_sr ?_
    refine S_val rfl rfl (Y_lss_t rfl rfl (by decide)) ?_
    refine S_nx ?_
    refine T_seq ?_
    refine T_cond_true rfl ?_
    refine T_skip ?_
    refine X_seq ?_
    refine T_seq ?_
    refine T_block ?_
    refine T_sr ?_
    refine S_mv rfl rfl rfl ?_
    refine S_as rfl rfl rfl ?_
    refine S_nx ?_
    refine T_region ?_
    refine S_mv rfl rfl rfl ?_
    refine S_mv rfl rfl rfl ?_
    refine S_mv rfl rfl rfl ?_
    refine S_val rfl rfl (Y_mulN rfl rfl (nat_lit' _) (nat_cast _) (Nat.le_of_ble_eq_true rfl)) ?_
    refine S_val rfl rfl (Y_conv (und rfl) (und rfl) rfl (wu64 (by omega) (by omega))) ?_
    refine S_callR _ rfl rfl (bod rfl) (fun w hs => pt 1 (by omega) _ (by first | exact hs.rowRd 0 rfl | exact hs.rowRd 1 rfl | exact hs.rowRd 2 rfl | exact hs.rowRd 3 rfl | exact hs.rowRd 4 rfl | exact hs.rowRd 5 rfl | exact hs.rowRd 6 rfl | exact hs.rowRd 7 rfl | exact hs.rowRd 8 rfl | exact hs.rowRd 9 rfl | exact hs.rowRd 10 rfl | exact hs.rowRd 11 rfl | exact hs.rowRd 12 rfl | exact hs.rowRd 13 rfl | exact Rd.st (by assumption) hs)) rfl rfl fun _ => ?_
    skip
    refine S_callV rfl rfl (bod rfl) (fun w hs => fr 1 _ _ (by first | exact hs.rowRd 0 rfl | exact hs.rowRd 1 rfl | exact hs.rowRd 2 rfl | exact hs.rowRd 3 rfl | exact hs.rowRd 4 rfl | exact hs.rowRd 5 rfl | exact hs.rowRd 6 rfl | exact hs.rowRd 7 rfl | exact hs.rowRd 8 rfl | exact hs.rowRd 9 rfl | exact hs.rowRd 10 rfl | exact hs.rowRd 11 rfl | exact hs.rowRd 12 rfl | exact hs.rowRd 13 rfl | exact Rd.st (by assumption) hs)) rfl rfl ?_
    refine S_val rfl rfl (Y_ixg (und rfl) (siz rfl) rfl rfl (nat_cast _) (Nat.le_of_ble_eq_true rfl)) ?_
    refine S_storePI 1 (siz rfl) rfl rfl rfl (dl_length _ _ _) (by rw [w3_length]; omega) (w3_s1 _ _ _ _) rfl ?_
    refine S_nil ?_
    refine X_blk ?_
    refine X_seq ?_
    refine T_region ?_
    refine S_val rfl rfl (Y_addN rfl rfl (nat_cast _) (nat_lit' _) (Nat.le_of_ble_eq_true rfl)) ?_
    refine S_mv rfl rfl rfl ?_
    refine S_nil ?_
    refine X_loop ?_
    exact ⟨(2, l 0, l 1, 0), by simp, by dsimp only; omega, (by repeat (first | exact Env.sub_nil _ | (apply Env.sub_cons; rfl))), Emb.idx [0, 1] rfl rfl⟩
  · dsimp only
    refine T_sr ?_
    refine S_val rfl rfl (Y_lss_t rfl rfl (by decide)) ?_
    refine S_nx ?_
    refine T_seq ?_
    refine T_cond_true rfl ?_
    refine T_skip ?_
    refine X_seq ?_
    refine T_seq ?_
    refine T_block ?_
    refine T_sr ?_
    refine S_mv rfl rfl rfl ?_
    refine S_as rfl rfl rfl ?_
    refine S_nx ?_
    refine T_region ?_
    refine S_mv rfl rfl rfl ?_
    refine S_mv rfl rfl rfl ?_
    refine S_mv rfl rfl rfl ?_
    refine S_val rfl rfl (Y_mulN rfl rfl (nat_lit' _) (nat_cast _) (Nat.le_of_ble_eq_true rfl)) ?_
    refine S_val rfl rfl (Y_conv (und rfl) (und rfl) rfl (wu64 (by omega) (by omega))) ?_
    refine S_callR _ rfl rfl (bod rfl) (fun w hs => pt 2 (by omega) _ (by first | exact hs.rowRd 0 rfl | exact hs.rowRd 1 rfl | exact hs.rowRd 2 rfl | exact hs.rowRd 3 rfl | exact hs.rowRd 4 rfl | exact hs.rowRd 5 rfl | exact hs.rowRd 6 rfl | exact hs.rowRd 7 rfl | exact hs.rowRd 8 rfl | exact hs.rowRd 9 rfl | exact hs.rowRd 10 rfl | exact hs.rowRd 11 rfl | exact hs.rowRd 12 rfl | exact hs.rowRd 13 rfl | exact Rd.st (by assumption) hs)) rfl rfl fun _ => ?_
    skip
    refine S_callV rfl rfl (bod rfl) (fun w hs => fr 2 _ _ (by first | exact hs.rowRd 0 rfl | exact hs.rowRd 1 rfl | exact hs.rowRd 2 rfl | exact hs.rowRd 3 rfl | exact hs.rowRd 4 rfl | exact hs.rowRd 5 rfl | exact hs.rowRd 6 rfl | exact hs.rowRd 7 rfl | exact hs.rowRd 8 rfl | exact hs.rowRd 9 rfl | exact hs.rowRd 10 rfl | exact hs.rowRd 11 rfl | exact hs.rowRd 12 rfl | exact hs.rowRd 13 rfl | exact Rd.st (by assumption) hs)) rfl rfl ?_
    refine S_val rfl rfl (Y_ixg (und rfl) (siz rfl) rfl rfl (nat_cast _) (Nat.le_of_ble_eq_true rfl)) ?_
    refine S_storePI 1 (siz rfl) rfl rfl rfl (dl_length _ _ _) (by rw [w3_length]; omega) (w3_s2 _ _ _ _) rfl ?_
    refine S_nil ?_
    refine X_blk ?_
    refine X_seq ?_
    refine T_region ?_
    refine S_val rfl rfl (Y_addN rfl rfl (nat_cast _) (nat_lit' _) (Nat.le_of_ble_eq_true rfl)) ?_
    refine S_mv rfl rfl rfl ?_
    refine S_nil ?_
    refine X_loop ?_
    exact ⟨(3, l 0, l 1, l 2), by simp, by dsimp only; omega, (by repeat (first | exact Env.sub_nil _ | (apply Env.sub_cons; rfl))), Emb.idx [0, 1] rfl rfl⟩
  · dsimp only
    have hl : (w3 (l 0) (l 1) (l 2)).length = 12 := w3_length _ _ _
    have hl2 : (List.replicate 12 (0 : Int)).length = 12 := List.length_replicate
    refine T_sr ?_
    refine S_val rfl rfl (Y_lss_f rfl rfl (by decide)) ?_
    refine S_nx ?_
    refine T_seq ?_
    refine T_cond_false rfl ?_
    refine T_exit ?_
    refine X_seq_exit ?_
    refine X_loop_exit ?_
    refine X_blk_hit rfl ?_
    refine X_seq ?_
    refine T_sr ?_
    refine S_val rfl rfl (Y_loadAI 1 (und rfl) rfl rfl rfl (siz rfl) rfl) ?_
    refine S_storeAI 0 (siz rfl) rfl rfl rfl rfl rfl rfl ?_
    refine S_nx ?_
    refine T_ret ?_
    ((first | refine X_fin_ret ?_ | refine X_fin ?_); exact ⟨[_], [], .cons (.agg 0 rfl (und rfl) rfl rfl (siz rfl)) .nil, Emb.nil _, rfl, rfl⟩)
end Go.Proofs.YtjolmphkmfbpbaaDoor
/- Package modexp: what an input costs. -/
namespace Go.Proofs.YtjolmphkmfbpbaaDoor
open Go.RowKit
set_option maxRecDepth 20000
set_option maxHeartbeats 4000000
/-- The first bytes of the exponent. -/
def headN (n x : Nat) : Nat := qN n x (96 + lenN n x 0 + min (lenN n x 1) 32) % 256 ^ min (lenN n x 1) 32
def cnt0 (h e : Nat) : Nat := bitLen h - 1 + (if 32 < e then 8 * (e - 32) else 0)
def cntN (h e : Nat) : Nat := if cnt0 h e = 0 then 1 else cnt0 h e
def wN (b m : Nat) : Nat := max b m / 8 + (if max b m % 8 = 0 then 0 else 1)
def gasN (n x : Nat) : Nat :=
  if lenN n x 0 = 0 ∧ lenN n x 2 = 0 then 200
  else if lenN n x 0 < 18446744073709551616 ∧ lenN n x 1 < 18446744073709551616 ∧ lenN n x 2 < 18446744073709551616 then
    min (max (wN (lenN n x 0) (lenN n x 2) * wN (lenN n x 0) (lenN n x 2) * cntN (headN n x) (lenN n x 1) / 3) 200) 18446744073709551615
  else 18446744073709551615
theorem headN_lt (n x : Nat) : headN n x < 256 ^ min (lenN n x 1) 32 := Nat.mod_lt _ (Nat.pow_pos (by omega))
theorem headN_lt2 (n x : Nat) : headN n x < 2 ^ 256 := Nat.lt_of_lt_of_le (headN_lt n x) (show _ ≤ 256 ^ 32 from Nat.pow_le_pow_right (by omega) (Nat.min_le_right _ _))
theorem headN_far {n x : Nat} (h : n ≤ 96 + lenN n x 0) : headN n x = 0 := qN_far (by omega)
theorem bitLen256 {x : Nat} (hx : x < 2 ^ 256) : bitLen x ≤ 256 := by
  unfold bitLen
  split
  · omega
  · rename_i h0
    have := (Nat.log2_lt h0).2 hx
    omega
theorem cnt0_lt {h e : Nat} (hh : h < 2 ^ 256) (he : e < 18446744073709551616) : cnt0 h e < 2 ^ 68 := by
  have := bitLen256 hh
  unfold cnt0
  split <;> omega
theorem cntN_lt {h e : Nat} (hh : h < 2 ^ 256) (he : e < 18446744073709551616) : cntN h e < 2 ^ 68 := by
  have := cnt0_lt hh he
  unfold cntN
  split <;> omega
theorem wN_lt {b m : Nat} (hb : b < 18446744073709551616) (hm : m < 18446744073709551616) : wN b m < 2 ^ 62 := by
  unfold wN
  split <;> omega
theorem ww_lt {w : Nat} (hw : w < 2 ^ 62) : w * w < 2 ^ 124 := by
  have := Nat.mul_lt_mul'' hw hw
  rwa [← Nat.pow_add] at this
theorem wwc_lt {w c : Nat} (hw : w < 2 ^ 62) (hc : c < 2 ^ 68) : w * w * c < 2 ^ 192 := by
  have := Nat.mul_lt_mul'' (ww_lt hw) hc
  rwa [← Nat.pow_add] at this
theorem dl4_ne {x : Nat} (hx : x < 2 ^ 256) (h : x ≠ 0) : ¬ (dl 18446744073709551616 4 x = fillI (List.replicate 4 0) []) := by
  intro e
  apply h
  have e2 : dl 18446744073709551616 4 x = dl 18446744073709551616 4 0 := by rw [e, dl_zero]; rfl
  exact dl_inj (b := 18446744073709551616) (n := 4) (by omega) (by exact hx) (by omega) e2
theorem dl4_eq {x : Nat} (h : x = 0) : dl 18446744073709551616 4 x = fillI (List.replicate 4 0) [] := by
  subst h
  rw [dl_zero]
  rfl
theorem mgas_any (n x : Nat) (hx : x < 256 ^ n) (hn : n ≤ 1000000) (v : Value) (w : World) (hr : Rd w v .u8 (bel n x)) :
    Fn Tryd.prog 19 #[v] w fun u N => u = .int .u64 ((gasN n x : Nat) : Int) ∧ N = [] := by
  have lg := fun w h => mlengths_any n x hx hn v w h
  have hh2 := headN_lt2 n x
  have hh1 := headN_lt n x
  have hf := headN_far (n := n) (x := x)
  have pt := fun at_ hat w h => mpart_any n x at_ (min (lenN n x 1) 32) hx hn hat (by omega) v w h
  have hhd : headN n x = qN n x (96 + lenN n x 0 + min (lenN n x 1) 32) % 256 ^ min (lenN n x 1) 32 := rfl
  have fr := fun u w h => wfrom_any (min (lenN n x 1) 32) (headN n x) hh1 (by omega) u w h
  simp only [Nat.mod_eq_of_lt hh2] at fr
  have hb0 := lenN_lt n x 0
  have he0 := lenN_lt n x 1
  have hm0 := lenN_lt n x 2
  have w3l := w3_length (lenN n x 0) (lenN n x 1) (lenN n x 2)
  have hg : gasN n x = if lenN n x 0 = 0 ∧ lenN n x 2 = 0 then 200 else if lenN n x 0 < 18446744073709551616 ∧ lenN n x 1 < 18446744073709551616 ∧ lenN n x 2 < 18446744073709551616 then
    min (max (wN (lenN n x 0) (lenN n x 2) * wN (lenN n x 0) (lenN n x 2) * cntN (headN n x) (lenN n x 1) / 3) 200) 18446744073709551615 else 18446744073709551615 := rfl
  generalize gasN n x = g at *
  generalize hhn : headN n x = hd at *
  clear hhn
  generalize lenN n x 0 = b at *
  generalize lenN n x 1 = e at *
  generalize lenN n x 2 = m at *
  refine Fn_of (args := [v]) Tryd.func19 rfl Tryd.ntmps19 Tryd.results19 (by simp) ?_
  refine T_sr ?_
  refine S_as rfl rfl rfl ?_
  refine S_nx ?_
  refine T_sr ?_
  refine S_mv rfl rfl rfl ?_
  refine S_callV rfl rfl (bod rfl) (fun w hs => lg _ (by first | exact hs.rowRd 0 rfl | exact hs.rowRd 1 rfl | exact hs.rowRd 2 rfl | exact hs.rowRd 3 rfl | exact hs.rowRd 4 rfl | exact hs.rowRd 5 rfl | exact hs.rowRd 6 rfl | exact hs.rowRd 7 rfl | exact hs.rowRd 8 rfl | exact hs.rowRd 9 rfl | exact hs.rowRd 10 rfl | exact hs.rowRd 11 rfl | exact hs.rowRd 12 rfl | exact hs.rowRd 13 rfl | exact Rd.st (by assumption) hs)) rfl rfl ?_
  refine S_allocA (zer rfl) rfl rfl fun b3 => ?_
  refine S_storeAI 0 (siz rfl) rfl rfl rfl List.length_replicate w3l rfl ?_
  refine S_nx ?_
  refine T_seq ?_
  refine T_cutK (α := Unit) (fun _ => ¬ (b = 0 ∧ m = 0)) (fun _ => [(0, v), (3, .pointer (some ⟨b3, 0, none⟩))]) (fun _ => [blk b3 (.cells (ints .u64 (w3 b e m)) 51 (0, 0))]) ?_ ?_
  · clear pt fr hf hhd hh1 hh2
    by_cases h1 : b = 0
    · have e1 := dl4_eq h1
      by_cases h2 : m = 0
      · have e2 := dl4_eq h2
        rw [if_pos ⟨h1, h2⟩] at hg
        clear hb0 he0 hm0
        subst hg
        refine T_sr ?_
        refine S_val rfl rfl (Y_ixg (und rfl) (siz rfl) rfl rfl (nat_lit' _) (Nat.le_of_ble_eq_true rfl)) ?_
        refine S_val rfl rfl (Y_loadPX 0 (und rfl) rfl rfl rfl (siz rfl) (Nat.le_of_ble_eq_true rfl) (w3_0 _ _ _)) ?_
        refine S_val rfl rfl (Y_build (und rfl) (siz rfl) (zer rfl) rfl rfl) ?_
        refine S_val rfl rfl (Y_eqlA_t (eqg rfl) (und rfl) (und rfl) (siz rfl) rfl rfl (dl_length _ _ _) (by assumption)) ?_
        refine S_mv rfl rfl rfl ?_
        refine S_val rfl rfl (Y_ixg (und rfl) (siz rfl) rfl rfl (nat_lit' _) (Nat.le_of_ble_eq_true rfl)) ?_
        refine S_val rfl rfl (Y_loadPX 0 (und rfl) rfl rfl rfl (siz rfl) (Nat.le_of_ble_eq_true rfl) (w3_2 _ _ _)) ?_
        refine S_val rfl rfl (Y_build (und rfl) (siz rfl) (zer rfl) rfl rfl) ?_
        refine S_val rfl rfl (Y_eqlA_t (eqg rfl) (und rfl) (und rfl) (siz rfl) rfl rfl (dl_length _ _ _) (by assumption)) ?_
        refine S_val rfl rfl (Y_pick_t rfl rfl) ?_
        refine S_nx ?_
        refine T_cond_true rfl ?_
        refine T_sr ?_
        refine S_as rfl rfl rfl ?_
        refine S_nx ?_
        refine T_ret ?_
        refine X_loop_ret ?_
        ((first | refine X_fin_ret ?_ | refine X_fin ?_); exact ⟨[_], [], .cons (.tmp rfl) .nil, Emb.nil _, rfl, rfl⟩)
      · have e2 := dl4_ne hm0 h2
        clear hb0 he0 hm0 hg
        refine T_sr ?_
        refine S_val rfl rfl (Y_ixg (und rfl) (siz rfl) rfl rfl (nat_lit' _) (Nat.le_of_ble_eq_true rfl)) ?_
        refine S_val rfl rfl (Y_loadPX 0 (und rfl) rfl rfl rfl (siz rfl) (Nat.le_of_ble_eq_true rfl) (w3_0 _ _ _)) ?_
        refine S_val rfl rfl (Y_build (und rfl) (siz rfl) (zer rfl) rfl rfl) ?_
        refine S_val rfl rfl (Y_eqlA_t (eqg rfl) (und rfl) (und rfl) (siz rfl) rfl rfl (dl_length _ _ _) (by assumption)) ?_
        refine S_mv rfl rfl rfl ?_
        refine S_val rfl rfl (Y_ixg (und rfl) (siz rfl) rfl rfl (nat_lit' _) (Nat.le_of_ble_eq_true rfl)) ?_
        refine S_val rfl rfl (Y_loadPX 0 (und rfl) rfl rfl rfl (siz rfl) (Nat.le_of_ble_eq_true rfl) (w3_2 _ _ _)) ?_
        refine S_val rfl rfl (Y_build (und rfl) (siz rfl) (zer rfl) rfl rfl) ?_
        refine S_val rfl rfl (Y_eqlA_f (eqg rfl) (und rfl) (und rfl) (siz rfl) rfl rfl (dl_length _ _ _) rfl (by assumption)) ?_
        refine S_val rfl rfl (Y_pick_t rfl rfl) ?_
        refine S_nx ?_
        refine T_cond_false rfl ?_
        refine T_skip ?_
        refine X_loop ?_
        exact ⟨(), fun h => h2 h.2, (by repeat (first | exact Env.sub_nil _ | (apply Env.sub_cons; rfl))), Emb.refl _⟩
    · have e1 := dl4_ne hb0 h1
      clear hb0 he0 hm0 hg
      refine T_sr ?_
      refine S_val rfl rfl (Y_ixg (und rfl) (siz rfl) rfl rfl (nat_lit' _) (Nat.le_of_ble_eq_true rfl)) ?_
      refine S_val rfl rfl (Y_loadPX 0 (und rfl) rfl rfl rfl (siz rfl) (Nat.le_of_ble_eq_true rfl) (w3_0 _ _ _)) ?_
      refine S_val rfl rfl (Y_build (und rfl) (siz rfl) (zer rfl) rfl rfl) ?_
      refine S_val rfl rfl (Y_eqlA_f (eqg rfl) (und rfl) (und rfl) (siz rfl) rfl rfl (dl_length _ _ _) rfl (by assumption)) ?_
      refine S_mv rfl rfl rfl ?_
      refine S_skip rfl rfl ?_
      refine S_skip rfl rfl ?_
      refine S_skip rfl rfl ?_
      refine S_skip rfl rfl ?_
      refine S_val rfl rfl (Y_pick_f rfl rfl) ?_
      refine S_nx ?_
      refine T_cond_false rfl ?_
      refine T_skip ?_
      refine X_loop ?_
      exact ⟨(), fun h => h1 h.1, (by repeat (first | exact Env.sub_nil _ | (apply Env.sub_cons; rfl))), Emb.refl _⟩
  · rintro ⟨⟩ hne
    rw [if_neg hne] at hg
    have sb := small_any b hb0
    have se := small_any e he0
    have sm := small_any m hm0
    clear hb0 he0 hm0 hne
    by_cases hb : b < 18446744073709551616
    · by_cases he : e < 18446744073709551616
      · by_cases hm : m < 18446744073709551616
        · rw [if_pos hb, decide_eq_true hb] at sb
          rw [if_pos he, decide_eq_true he] at se
          rw [if_pos hm, decide_eq_true hm] at sm
          rw [if_pos ⟨hb, he, hm⟩] at hg
          refine T_sr ?_
          refine S_val rfl rfl (Y_ixg (und rfl) (siz rfl) rfl rfl (nat_lit' _) (Nat.le_of_ble_eq_true rfl)) ?_
          refine S_val rfl rfl (Y_loadPX 0 (und rfl) rfl rfl rfl (siz rfl) (Nat.le_of_ble_eq_true rfl) (w3_0 _ _ _)) ?_
          refine S_callV rfl rfl (bod rfl) (fun w hs => sb _) rfl rfl ?_
          refine S_mv rfl rfl rfl ?_
          refine S_val rfl rfl (Y_extract rfl rfl) ?_
          refine S_val rfl rfl (Y_extract rfl rfl) ?_
          refine S_as rfl rfl rfl ?_
          refine S_as rfl rfl rfl ?_
          refine S_nx ?_
          refine T_sr ?_
          refine S_val rfl rfl (Y_ixg (und rfl) (siz rfl) rfl rfl (nat_lit' _) (Nat.le_of_ble_eq_true rfl)) ?_
          refine S_val rfl rfl (Y_loadPX 0 (und rfl) rfl rfl rfl (siz rfl) (Nat.le_of_ble_eq_true rfl) (w3_1 _ _ _)) ?_
          refine S_callV rfl rfl (bod rfl) (fun w hs => se _) rfl rfl ?_
          refine S_mv rfl rfl rfl ?_
          refine S_val rfl rfl (Y_extract rfl rfl) ?_
          refine S_val rfl rfl (Y_extract rfl rfl) ?_
          refine S_as rfl rfl rfl ?_
          refine S_as rfl rfl rfl ?_
          refine S_nx ?_
          refine T_sr ?_
          refine S_val rfl rfl (Y_ixg (und rfl) (siz rfl) rfl rfl (nat_lit' _) (Nat.le_of_ble_eq_true rfl)) ?_
          refine S_val rfl rfl (Y_loadPX 0 (und rfl) rfl rfl rfl (siz rfl) (Nat.le_of_ble_eq_true rfl) (w3_2 _ _ _)) ?_
          refine S_callV rfl rfl (bod rfl) (fun w hs => sm _) rfl rfl ?_
          refine S_mv rfl rfl rfl ?_
          refine S_val rfl rfl (Y_extract rfl rfl) ?_
          refine S_val rfl rfl (Y_extract rfl rfl) ?_
          refine S_as rfl rfl rfl ?_
          refine S_as rfl rfl rfl ?_
          refine S_nx ?_
          refine T_seq ?_
          refine T_sr ?_
          refine S_mv rfl rfl rfl ?_
          refine S_val rfl rfl (Y_not rfl rfl) ?_
          refine S_mv rfl rfl rfl ?_
          refine S_mv rfl rfl rfl ?_
          refine S_val rfl rfl (Y_not rfl rfl) ?_
          refine S_val rfl rfl (Y_pick_f rfl rfl) ?_
          refine S_mv rfl rfl rfl ?_
          refine S_mv rfl rfl rfl ?_
          refine S_val rfl rfl (Y_not rfl rfl) ?_
          refine S_val rfl rfl (Y_pick_f rfl rfl) ?_
          refine S_nx ?_
          refine T_cond_false rfl ?_
          refine T_skip ?_
          refine X_seq ?_
          refine T_sr ?_
          refine S_callV rfl rfl (bod rfl) (fun w hs => of_any 0 (by omega) _) rfl rfl ?_
          refine S_allocA (zer rfl) rfl rfl fun _ => ?_
          refine S_storeAI 1 (siz rfl) rfl rfl rfl rfl (dl_length _ _ _) rfl ?_
          refine S_nx ?_
          refine T_seq ?_
          refine T_sr ?_
          refine S_mv rfl rfl rfl ?_
          refine S_val rfl rfl (Y_add64 rfl rfl (nat_lit' _) (nat_cast _)) ?_
          refine S_as rfl rfl rfl ?_
          refine S_nx ?_
          refine T_sr ?_
          refine S_mv rfl rfl rfl ?_
          refine S_mv rfl rfl rfl ?_
          refine S_val rfl rfl (Y_geq rfl rfl) ?_
          refine S_nx ?_
          rename_i b10
          refine T_cutK (α := Unit) (fun _ => True) (fun _ => [(4, .int .u64 b), (6, .int .u64 e), (8, .int .u64 m), (10, .pointer (some ⟨b10, 0, none⟩))]) (fun _ => [blk b10 (.cells (ints .u64 (dl 18446744073709551616 4 (hd))) 50 (0, 0))]) ?_ ?_
          · refine T_if rfl (fun h => ?_) (fun h => ?_)
            · have h96 : (96 + b) % 18446744073709551616 = 96 + b := by omega
              have pt2 := pt ((96 + b) % 18446744073709551616) (by omega)
              have e2 : bel (min e 32) (qN n x ((96 + b) % 18446744073709551616 + min e 32)) = bel (min e 32) hd := by rw [h96, hhd, bel_mod]
              rw [e2] at pt2
              clear h96 e2 sb se sm hg
              refine T_region ?_
              refine S_mv rfl rfl rfl ?_
              refine S_mv rfl rfl rfl ?_
              refine S_mv rfl rfl rfl ?_
              refine S_val rfl rfl (Y_min rfl rfl (nat_cast _) (nat_lit' _)) ?_
              refine S_callR _ rfl rfl (bod rfl) (fun w hs => pt2 _ (by first | exact hs.rowRd 0 rfl | exact hs.rowRd 1 rfl | exact hs.rowRd 2 rfl | exact hs.rowRd 3 rfl | exact hs.rowRd 4 rfl | exact hs.rowRd 5 rfl | exact hs.rowRd 6 rfl | exact hs.rowRd 7 rfl | exact hs.rowRd 8 rfl | exact hs.rowRd 9 rfl | exact hs.rowRd 10 rfl | exact hs.rowRd 11 rfl | exact hs.rowRd 12 rfl | exact hs.rowRd 13 rfl | exact Rd.st (by assumption) hs)) rfl rfl fun _ => ?_
              skip
              refine S_callV rfl rfl (bod rfl) (fun w hs => fr _ _ (by first | exact hs.rowRd 0 rfl | exact hs.rowRd 1 rfl | exact hs.rowRd 2 rfl | exact hs.rowRd 3 rfl | exact hs.rowRd 4 rfl | exact hs.rowRd 5 rfl | exact hs.rowRd 6 rfl | exact hs.rowRd 7 rfl | exact hs.rowRd 8 rfl | exact hs.rowRd 9 rfl | exact hs.rowRd 10 rfl | exact hs.rowRd 11 rfl | exact hs.rowRd 12 rfl | exact hs.rowRd 13 rfl | exact Rd.st (by assumption) hs)) rfl rfl ?_
              refine S_storeAI 1 (siz rfl) rfl rfl rfl (dl_length _ _ _) (dl_length _ _ _) rfl ?_
              refine S_nil ?_
              refine X_loop ?_
              exact ⟨(), trivial, (by repeat (first | exact Env.sub_nil _ | (apply Env.sub_cons; rfl))), Emb.one 1 rfl⟩
            · have hz : hd = 0 := hf (by omega)
              subst hz
              refine T_skip ?_
              refine X_loop ?_
              exact ⟨(), trivial, (by repeat (first | exact Env.sub_nil _ | (apply Env.sub_cons; rfl))), Emb.one 1 rfl⟩
          · rintro ⟨⟩ _
            have hb256 := bitLen256 hh2
            have ln := len_any hd hh2
            have hc0 := cnt0_lt hh2 he
            have hcn := cntN_lt hh2 he
            have hcd : cntN hd e = if cnt0 hd e = 0 then 1 else cnt0 hd e := rfl
            have hc0d : cnt0 hd e = bitLen hd - 1 + (if 32 < e then 8 * (e - 32) else 0) := rfl
            have hw := wN_lt hb hm
            have hwd : wN b m = max b m / 8 + (if max b m % 8 = 0 then 0 else 1) := rfl
            have hmx : max ((bitLen hd : Int) - 1) 0 = ((bitLen hd - 1 : Nat) : Int) := by omega
            have ob := of_any (bitLen hd - 1) (by omega)
            clear sb se sm lg pt fr hf hh1 hhd w3l
            generalize cntN hd e = c at *
            generalize cnt0 hd e = c0 at *
            generalize wN b m = w0 at *
            generalize bitLen hd = bl at *
            refine T_sr ?_
            refine S_val rfl rfl (Y_loadAI 0 (und rfl) rfl rfl rfl (siz rfl) (dl_length _ _ _)) ?_
            refine S_callV rfl rfl (bod rfl) (fun w hs => ln _) rfl rfl ?_
            refine S_val rfl rfl (Y_sub rfl rfl (wi64 (by omega) (by omega))) ?_
            refine S_val rfl rfl (Y_maxI rfl rfl (by assumption)) ?_
            refine S_val rfl rfl (Y_conv (und rfl) (und rfl) rfl (wu64 (by omega) (by omega))) ?_
            refine S_callV rfl rfl (bod rfl) (fun w hs => ob _) rfl rfl ?_
            refine S_allocA (zer rfl) rfl rfl fun _ => ?_
            refine S_storeAI 1 (siz rfl) rfl rfl rfl rfl (dl_length _ _ _) rfl ?_
            refine S_nx ?_
            refine T_seq ?_
            refine T_sr ?_
            refine S_mv rfl rfl rfl ?_
            refine S_val rfl rfl (Y_gtr rfl rfl) ?_
            refine S_nx ?_
            rename_i b12
            refine T_cutK (α := Unit) (fun _ => True) (fun _ => [(4, .int .u64 b), (8, .int .u64 m), (12, .pointer (some ⟨b12, 0, none⟩))]) (fun _ => [blk b12 (.cells (ints .u64 (dl 18446744073709551616 4 (c0))) 50 (0, 0))]) ?_ ?_
            · refine T_if rfl (fun h => ?_) (fun h => ?_)
              · have h32 : 32 < e := by omega
                rw [if_pos h32] at hc0d
                have ml := mul_any 8 (e - 32)
                rw [Nat.mod_eq_of_lt (show 8 * (e - 32) < 2 ^ 256 by omega)] at ml
                have ad := add_any (bl - 1) (8 * (e - 32)) (by omega) (by omega)
                rw [← hc0d, Nat.mod_eq_of_lt (show c0 < 2 ^ 256 by omega)] at ad
                have oe := of_any (e - 32) (by omega)
                clear hg hcn hcd hc0d hwd hw
                generalize bl - 1 = z at *
                clear hmx
                skip
                refine T_drawP (.succ (.succ (.succ (.succ (.succ (.succ (.succ .zero))))))) (by kernel_rfl) (by kernel_rfl) (by kernel_rfl) (by kernel_rfl) ?_
                refine D0_valM rfl rfl rfl (Y_loadAI 1 (und rfl) rfl rfl rfl (siz rfl) (dl_length _ _ _)) ?_
                refine D0_callV rfl rfl (bod rfl) (fun w hs => of_any 8 (by omega) _) rfl rfl ?_
                refine D0_val rfl rfl rfl (Y_move rfl) ?_
                refine D0_val rfl rfl rfl (Y_subU rfl rfl (nat_cast _) (nat_lit' _) rfl (by omega) (by simp only [IntKind.bits]; assumption)) ?_
                refine D0_callV rfl rfl (bod rfl) (fun w hs => oe _) rfl rfl ?_
                skip
                refine D0_callV rfl rfl (bod rfl) (fun w hs => ml _) rfl rfl ?_
                skip
                refine D0_callV rfl rfl (bod rfl) (fun w hs => ad _) rfl rfl ?_
                refine D0_nilS ?_
                refine S_storeAI 1 (siz rfl) rfl rfl rfl (dl_length _ _ _) (dl_length _ _ _) rfl ?_
                refine S_nil ?_
                refine X_loop ?_
                exact ⟨(), trivial, (by repeat (first | exact Env.sub_nil _ | (apply Env.sub_cons; rfl))), Emb.one 1 rfl⟩
              · rw [if_neg (by omega), Nat.add_zero] at hc0d
                rw [← hc0d]
                clear hg hcn hcd hwd hw
                refine T_skip ?_
                refine X_loop ?_
                exact ⟨(), trivial, (by repeat (first | exact Env.sub_nil _ | (apply Env.sub_cons; rfl))), Emb.one 1 rfl⟩
            · rintro ⟨⟩ _
              clear hc0d ln ob hmx hb256
              refine T_seq ?_
              refine T_sr ?_
              refine S_val rfl rfl (Y_loadAI 0 (und rfl) rfl rfl rfl (siz rfl) (dl_length _ _ _)) ?_
              refine S_val rfl rfl (Y_build (und rfl) (siz rfl) (zer rfl) rfl rfl) ?_
              refine S_val rfl rfl (Y_eqlA (eqg rfl) (und rfl) (und rfl) (siz rfl) rfl rfl (dl_length _ _ _) rfl) ?_
              refine S_nx ?_
              refine T_cutK (α := Unit) (fun _ => True) (fun _ => [(4, .int .u64 b), (8, .int .u64 m), (12, .pointer (some ⟨b12, 0, none⟩))]) (fun _ => [blk b12 (.cells (ints .u64 (dl 18446744073709551616 4 (c))) 50 (0, 0))]) ?_ ?_
              · refine T_if rfl (fun h => ?_) (fun h => ?_)
                · have h0 : c0 = 0 := by
                    rcases Nat.eq_zero_or_pos c0 with h2 | h2
                    · exact h2
                    · exact absurd h (dl4_ne (by omega) (by omega))
                  rw [if_pos h0] at hcd
                  subst hcd
                  clear hg
                  refine T_region ?_
                  refine S_callV rfl rfl (bod rfl) (fun w hs => of_any 1 (by omega) _) rfl rfl ?_
                  refine S_storeAI 0 (siz rfl) rfl rfl rfl (dl_length _ _ _) (dl_length _ _ _) rfl ?_
                  refine S_nil ?_
                  refine X_loop ?_
                  exact ⟨(), trivial, (by repeat (first | exact Env.sub_nil _ | (apply Env.sub_cons; rfl))), Emb.one 0 rfl⟩
                · have h0 : c0 ≠ 0 := fun h2 => h (dl4_eq h2)
                  rw [if_neg h0] at hcd
                  rw [← hcd]
                  clear hg
                  refine T_skip ?_
                  refine X_loop ?_
                  exact ⟨(), trivial, (by repeat (first | exact Env.sub_nil _ | (apply Env.sub_cons; rfl))), Emb.one 0 rfl⟩
              · rintro ⟨⟩ _
                clear hcd hc0
                refine T_sr ?_
                refine S_mv rfl rfl rfl ?_
                refine S_mv rfl rfl rfl ?_
                refine S_val rfl rfl (Y_max rfl rfl (nat_cast _) (nat_cast _)) ?_
                refine S_val rfl rfl (Y_quoN rfl rfl (nat_cast _) (nat_lit' _) (Nat.succ_ne_zero _) (by first | with_reducible exact xi64 (by omega) | with_reducible exact x64 (by omega) | with_reducible exact x8 (by omega) | with_reducible exact x32 (by omega))) ?_
                refine S_as rfl rfl rfl ?_
                refine S_nx ?_
                refine T_seq ?_
                refine T_sr ?_
                refine S_mv rfl rfl rfl ?_
                refine S_mv rfl rfl rfl ?_
                refine S_val rfl rfl (Y_max rfl rfl (nat_cast _) (nat_cast _)) ?_
                refine S_val rfl rfl (Y_remN rfl rfl (nat_cast _) (nat_lit' _) (Nat.succ_ne_zero _)) ?_
                refine S_val rfl rfl (Y_gtr rfl rfl) ?_
                refine S_nx ?_
                refine T_cutK (α := Unit) (fun _ => True) (fun _ => [(12, .pointer (some ⟨b12, 0, none⟩)), (13, .int .u64 w0)]) (fun _ => [blk b12 (.cells (ints .u64 (dl 18446744073709551616 4 (c))) 50 (0, 0))]) ?_ ?_
                · refine T_if rfl (fun h => ?_) (fun h => ?_)
                  · rw [if_neg (by omega)] at hwd
                    have hm2 : max b m / 8 + 1 < 18446744073709551616 := by omega
                    rw [hwd]
                    clear hg hw hwd
                    refine T_region ?_
                    refine S_mv rfl rfl rfl ?_
                    refine S_val rfl rfl (Y_addU rfl rfl (nat_cast _) (nat_lit' _) rfl (by simp only [IntKind.bits]; assumption)) ?_
                    refine S_as rfl rfl rfl ?_
                    refine S_nil ?_
                    refine X_loop ?_
                    exact ⟨(), trivial, (by repeat (first | exact Env.sub_nil _ | (apply Env.sub_cons; rfl))), Emb.one 0 rfl⟩
                  · rw [if_pos (by omega), Nat.add_zero] at hwd
                    rw [hwd]
                    clear hg hw hwd
                    refine T_skip ?_
                    refine X_loop ?_
                    exact ⟨(), trivial, (by repeat (first | exact Env.sub_nil _ | (apply Env.sub_cons; rfl))), Emb.one 0 rfl⟩
                · rintro ⟨⟩ _
                  have hww := ww_lt hw
                  have hwwc := wwc_lt hw hcn
                  have ow := of_any w0 (by omega)
                  have ml := mul_any w0 w0
                  rw [Nat.mod_eq_of_lt (show w0 * w0 < 2 ^ 256 by omega)] at ml
                  have pr := product_any (w0 * w0) c (by omega) (by omega)
                  rw [Nat.div_eq_of_lt (show w0 * w0 * c < 2 ^ 256 by omega)] at pr
                  have dv := wdiv_any (w0 * w0 * c) 3 (by omega) (by omega)
                  have sq := small_any (w0 * w0 * c / 3) (by omega)
                  have hz : dl 18446744073709551616 4 0 = fillI (List.replicate 4 0) [] := dl4_eq rfl
                  clear hb he hm hwd hw hcn hww hwwc
                  generalize w0 * w0 * c / 3 = q at *
                  generalize w0 * w0 * c = wwc at *
                  generalize w0 * w0 = ww at *
                  generalize remN wwc 3 = r at *
                  by_cases hq : q < 18446744073709551616
                  · rw [if_pos hq, decide_eq_true hq] at sq
                    have hg2 : ((max q 200 : Nat) : Int) = (g : Int) := by omega
                    clear hg
                    refine T_seq ?_
                    refine T_drawL (.succ (.succ (.succ (.succ (.succ (.succ (.succ (.succ (.succ (.succ .zero)))))))))) [.no, .no, .nw 10 (.cells (ints .u64 (List.replicate 4 0)) 50), .nw 11 (.cells (ints .u64 (List.replicate 4 0)) 50)] [blk b12 (.cells (ints .u64 (dl 18446744073709551616 4 (c))) 50 (0, 0))] rfl (by kernel_rfl) (Emb.idx [0] rfl rfl) rfl (by kernel_rfl) ?_
                    refine D0_val rfl rfl rfl (Y_move rfl) ?_
                    refine D0_callV rfl rfl (bod rfl) (fun w hs => ow _) rfl rfl ?_
                    refine D0_val rfl rfl rfl (Y_move rfl) ?_
                    refine D0_callV rfl rfl (bod rfl) (fun w hs => ow _) rfl rfl ?_
                    skip
                    refine D0_callV rfl rfl (bod rfl) (fun w hs => ml _) rfl rfl ?_
                    refine D0_valM rfl rfl rfl (Y_loadAI 0 (und rfl) rfl rfl rfl (siz rfl) (dl_length _ _ _)) ?_
                    refine D0_callV rfl rfl (bod rfl) (fun w hs => pr _) rfl rfl ?_
                    refine D0_val rfl rfl rfl (Y_move rfl) ?_
                    refine D0_val rfl rfl rfl (Y_extract rfl rfl) ?_
                    refine D0_val rfl rfl rfl (Y_extract rfl rfl) ?_
                    refine D0_nilL ?_
                    refine DL_allocA (zer rfl) rfl rfl rfl rfl rfl rfl ?_
                    refine DL_allocA (zer rfl) rfl rfl rfl rfl rfl rfl ?_
                    refine DL_storeAI rfl (fun _ => rfl) rfl (siz rfl) (fun _ => rfl) (fun _ => rfl) rfl (dl_length _ _ _) ?_
                    refine DL_storeAI rfl (fun _ => rfl) rfl (siz rfl) (fun _ => rfl) (fun _ => rfl) rfl (dl_length _ _ _) ?_
                    refine DL_nil fun _ => ?_
                    refine X_seq ?_
                    refine T_seq ?_
                    refine T_drawL (.succ (.succ (.succ (.succ (.succ (.succ .zero)))))) [.no, .no, .nw 6 (.cells (ints .u64 (List.replicate 4 0)) 50), .nw 7 (.cells (ints .u64 (List.replicate 4 0)) 50)] [blk _ (.cells (ints .u64 (dl 18446744073709551616 4 (wwc))) 50 (0, 0)), blk _ (.cells (ints .u64 (dl 18446744073709551616 4 (0))) 50 (0, 0))] rfl (by kernel_rfl) (Emb.idx [1, 2] rfl rfl) rfl (by kernel_rfl) ?_
                    refine D0_valM rfl rfl rfl (Y_loadAI 0 (und rfl) rfl rfl rfl (siz rfl) (dl_length _ _ _)) ?_
                    refine D0_callV rfl rfl (bod rfl) (fun w hs => of_any 3 (by omega) _) rfl rfl ?_
                    skip
                    refine D0_callV rfl rfl (bod rfl) (fun w hs => dv _) rfl rfl ?_
                    refine D0_val rfl rfl rfl (Y_move rfl) ?_
                    refine D0_val rfl rfl rfl (Y_extract rfl rfl) ?_
                    refine D0_val rfl rfl rfl (Y_extract rfl rfl) ?_
                    refine D0_nilL ?_
                    refine DL_allocA (zer rfl) rfl rfl rfl rfl rfl rfl ?_
                    refine DL_allocA (zer rfl) rfl rfl rfl rfl rfl rfl ?_
                    refine DL_storeAI rfl (fun _ => rfl) rfl (siz rfl) (fun _ => rfl) (fun _ => rfl) rfl (dl_length _ _ _) ?_
                    refine DL_storeAI rfl (fun _ => rfl) rfl (siz rfl) (fun _ => rfl) (fun _ => rfl) rfl (dl_length _ _ _) ?_
                    refine DL_nil fun _ => ?_
                    refine X_seq ?_
                    refine T_sr ?_
                    refine S_val rfl rfl (Y_loadAI 2 (und rfl) rfl rfl rfl (siz rfl) (dl_length _ _ _)) ?_
                    refine S_callV rfl rfl (bod rfl) (fun w hs => sq _) rfl rfl ?_
                    refine S_mv rfl rfl rfl ?_
                    refine S_val rfl rfl (Y_extract rfl rfl) ?_
                    refine S_val rfl rfl (Y_extract rfl rfl) ?_
                    refine S_as rfl rfl rfl ?_
                    refine S_as rfl rfl rfl ?_
                    refine S_nx ?_
                    refine T_seq ?_
                    refine T_sr ?_
                    refine S_mv rfl rfl rfl ?_
                    refine S_val rfl rfl (Y_not rfl rfl) ?_
                    refine S_mv rfl rfl rfl ?_
                    refine S_val rfl rfl (Y_loadAI 1 (und rfl) rfl rfl rfl (siz rfl) (dl_length _ _ _)) ?_
                    refine S_val rfl rfl (Y_build (und rfl) (siz rfl) (zer rfl) rfl rfl) ?_
                    refine S_val rfl rfl (Y_neqA_f (eqg rfl) (und rfl) (und rfl) (siz rfl) rfl rfl (dl_length _ _ _) rfl) ?_
                    refine S_val rfl rfl (Y_pick_f rfl rfl) ?_
                    refine S_nx ?_
                    refine T_cond_false rfl ?_
                    refine T_skip ?_
                    refine X_seq ?_
                    refine T_sr ?_
                    refine S_mv rfl rfl rfl ?_
                    refine S_val rfl rfl (Y_max rfl rfl (nat_cast _) (nat_lit' _)) ?_
                    refine S_as rfl rfl rfl ?_
                    refine S_nx ?_
                    refine T_ret ?_
                    ((first | refine X_fin_ret ?_ | refine X_fin ?_); exact ⟨[_], [], .cons (.tmp rfl) .nil, Emb.nil _, by show Value.int .u64 ((max q 200 : Nat) : Int) = _; rw [hg2], rfl⟩)
                  · rw [if_neg hq, decide_eq_false hq] at sq
                    have hg2 : (18446744073709551615 : Int) = (g : Int) := by omega
                    clear hg
                    refine T_seq ?_
                    refine T_drawL (.succ (.succ (.succ (.succ (.succ (.succ (.succ (.succ (.succ (.succ .zero)))))))))) [.no, .no, .nw 10 (.cells (ints .u64 (List.replicate 4 0)) 50), .nw 11 (.cells (ints .u64 (List.replicate 4 0)) 50)] [blk b12 (.cells (ints .u64 (dl 18446744073709551616 4 (c))) 50 (0, 0))] rfl (by kernel_rfl) (Emb.idx [0] rfl rfl) rfl (by kernel_rfl) ?_
                    refine D0_val rfl rfl rfl (Y_move rfl) ?_
                    refine D0_callV rfl rfl (bod rfl) (fun w hs => ow _) rfl rfl ?_
                    refine D0_val rfl rfl rfl (Y_move rfl) ?_
                    refine D0_callV rfl rfl (bod rfl) (fun w hs => ow _) rfl rfl ?_
                    skip
                    refine D0_callV rfl rfl (bod rfl) (fun w hs => ml _) rfl rfl ?_
                    refine D0_valM rfl rfl rfl (Y_loadAI 0 (und rfl) rfl rfl rfl (siz rfl) (dl_length _ _ _)) ?_
                    refine D0_callV rfl rfl (bod rfl) (fun w hs => pr _) rfl rfl ?_
                    refine D0_val rfl rfl rfl (Y_move rfl) ?_
                    refine D0_val rfl rfl rfl (Y_extract rfl rfl) ?_
                    refine D0_val rfl rfl rfl (Y_extract rfl rfl) ?_
                    refine D0_nilL ?_
                    refine DL_allocA (zer rfl) rfl rfl rfl rfl rfl rfl ?_
                    refine DL_allocA (zer rfl) rfl rfl rfl rfl rfl rfl ?_
                    refine DL_storeAI rfl (fun _ => rfl) rfl (siz rfl) (fun _ => rfl) (fun _ => rfl) rfl (dl_length _ _ _) ?_
                    refine DL_storeAI rfl (fun _ => rfl) rfl (siz rfl) (fun _ => rfl) (fun _ => rfl) rfl (dl_length _ _ _) ?_
                    refine DL_nil fun _ => ?_
                    refine X_seq ?_
                    refine T_seq ?_
                    refine T_drawL (.succ (.succ (.succ (.succ (.succ (.succ .zero)))))) [.no, .no, .nw 6 (.cells (ints .u64 (List.replicate 4 0)) 50), .nw 7 (.cells (ints .u64 (List.replicate 4 0)) 50)] [blk _ (.cells (ints .u64 (dl 18446744073709551616 4 (wwc))) 50 (0, 0)), blk _ (.cells (ints .u64 (dl 18446744073709551616 4 (0))) 50 (0, 0))] rfl (by kernel_rfl) (Emb.idx [1, 2] rfl rfl) rfl (by kernel_rfl) ?_
                    refine D0_valM rfl rfl rfl (Y_loadAI 0 (und rfl) rfl rfl rfl (siz rfl) (dl_length _ _ _)) ?_
                    refine D0_callV rfl rfl (bod rfl) (fun w hs => of_any 3 (by omega) _) rfl rfl ?_
                    skip
                    refine D0_callV rfl rfl (bod rfl) (fun w hs => dv _) rfl rfl ?_
                    refine D0_val rfl rfl rfl (Y_move rfl) ?_
                    refine D0_val rfl rfl rfl (Y_extract rfl rfl) ?_
                    refine D0_val rfl rfl rfl (Y_extract rfl rfl) ?_
                    refine D0_nilL ?_
                    refine DL_allocA (zer rfl) rfl rfl rfl rfl rfl rfl ?_
                    refine DL_allocA (zer rfl) rfl rfl rfl rfl rfl rfl ?_
                    refine DL_storeAI rfl (fun _ => rfl) rfl (siz rfl) (fun _ => rfl) (fun _ => rfl) rfl (dl_length _ _ _) ?_
                    refine DL_storeAI rfl (fun _ => rfl) rfl (siz rfl) (fun _ => rfl) (fun _ => rfl) rfl (dl_length _ _ _) ?_
                    refine DL_nil fun _ => ?_
                    refine X_seq ?_
                    refine T_sr ?_
                    refine S_val rfl rfl (Y_loadAI 2 (und rfl) rfl rfl rfl (siz rfl) (dl_length _ _ _)) ?_
                    refine S_callV rfl rfl (bod rfl) (fun w hs => sq _) rfl rfl ?_
                    refine S_mv rfl rfl rfl ?_
                    refine S_val rfl rfl (Y_extract rfl rfl) ?_
                    refine S_val rfl rfl (Y_extract rfl rfl) ?_
                    refine S_as rfl rfl rfl ?_
                    refine S_as rfl rfl rfl ?_
                    refine S_nx ?_
                    refine T_seq ?_
                    refine T_sr ?_
                    refine S_mv rfl rfl rfl ?_
                    refine S_val rfl rfl (Y_not rfl rfl) ?_
                    refine S_mv rfl rfl rfl ?_
                    refine S_skip rfl rfl ?_
                    refine S_skip rfl rfl ?_
                    refine S_skip rfl rfl ?_
                    refine S_val rfl rfl (Y_pick_t rfl rfl) ?_
                    refine S_nx ?_
                    refine T_cond_true rfl ?_
                    refine T_sr ?_
                    refine S_as rfl rfl rfl ?_
                    refine S_nx ?_
                    refine T_ret ?_
                    refine X_seq_ret ?_
                    ((first | refine X_fin_ret ?_ | refine X_fin ?_); exact ⟨[_], [], .cons (.tmp rfl) .nil, Emb.nil _, by show Value.int .u64 18446744073709551615 = _; rw [hg2], rfl⟩)
        · rw [if_pos hb, decide_eq_true hb] at sb
          rw [if_pos he, decide_eq_true he] at se
          rw [if_neg hm, decide_eq_false hm] at sm
          rw [if_neg (fun h => hm h.2.2)] at hg
          subst hg
          clear pt fr hf hhd hh1 hh2 lg hm
          refine T_sr ?_
          refine S_val rfl rfl (Y_ixg (und rfl) (siz rfl) rfl rfl (nat_lit' _) (Nat.le_of_ble_eq_true rfl)) ?_
          refine S_val rfl rfl (Y_loadPX 0 (und rfl) rfl rfl rfl (siz rfl) (Nat.le_of_ble_eq_true rfl) (w3_0 _ _ _)) ?_
          refine S_callV rfl rfl (bod rfl) (fun w hs => sb _) rfl rfl ?_
          refine S_mv rfl rfl rfl ?_
          refine S_val rfl rfl (Y_extract rfl rfl) ?_
          refine S_val rfl rfl (Y_extract rfl rfl) ?_
          refine S_as rfl rfl rfl ?_
          refine S_as rfl rfl rfl ?_
          refine S_nx ?_
          refine T_sr ?_
          refine S_val rfl rfl (Y_ixg (und rfl) (siz rfl) rfl rfl (nat_lit' _) (Nat.le_of_ble_eq_true rfl)) ?_
          refine S_val rfl rfl (Y_loadPX 0 (und rfl) rfl rfl rfl (siz rfl) (Nat.le_of_ble_eq_true rfl) (w3_1 _ _ _)) ?_
          refine S_callV rfl rfl (bod rfl) (fun w hs => se _) rfl rfl ?_
          refine S_mv rfl rfl rfl ?_
          refine S_val rfl rfl (Y_extract rfl rfl) ?_
          refine S_val rfl rfl (Y_extract rfl rfl) ?_
          refine S_as rfl rfl rfl ?_
          refine S_as rfl rfl rfl ?_
          refine S_nx ?_
          refine T_sr ?_
          refine S_val rfl rfl (Y_ixg (und rfl) (siz rfl) rfl rfl (nat_lit' _) (Nat.le_of_ble_eq_true rfl)) ?_
          refine S_val rfl rfl (Y_loadPX 0 (und rfl) rfl rfl rfl (siz rfl) (Nat.le_of_ble_eq_true rfl) (w3_2 _ _ _)) ?_
          refine S_callV rfl rfl (bod rfl) (fun w hs => sm _) rfl rfl ?_
          refine S_mv rfl rfl rfl ?_
          refine S_val rfl rfl (Y_extract rfl rfl) ?_
          refine S_val rfl rfl (Y_extract rfl rfl) ?_
          refine S_as rfl rfl rfl ?_
          refine S_as rfl rfl rfl ?_
          refine S_nx ?_
          refine T_seq ?_
          refine T_sr ?_
          refine S_mv rfl rfl rfl ?_
          refine S_val rfl rfl (Y_not rfl rfl) ?_
          refine S_mv rfl rfl rfl ?_
          refine S_mv rfl rfl rfl ?_
          refine S_val rfl rfl (Y_not rfl rfl) ?_
          refine S_val rfl rfl (Y_pick_f rfl rfl) ?_
          refine S_mv rfl rfl rfl ?_
          refine S_mv rfl rfl rfl ?_
          refine S_val rfl rfl (Y_not rfl rfl) ?_
          refine S_val rfl rfl (Y_pick_f rfl rfl) ?_
          refine S_nx ?_
          refine T_cond_true rfl ?_
          refine T_sr ?_
          refine S_as rfl rfl rfl ?_
          refine S_nx ?_
          refine T_ret ?_
          refine X_seq_ret ?_
          ((first | refine X_fin_ret ?_ | refine X_fin ?_); exact ⟨[_], [], .cons (.tmp rfl) .nil, Emb.nil _, rfl, rfl⟩)
      · rw [if_pos hb, decide_eq_true hb] at sb
        rw [if_neg he, decide_eq_false he] at se
        rw [if_neg (fun h => he h.2.1)] at hg
        subst hg
        clear pt fr hf hhd hh1 hh2 lg he
        refine T_sr ?_
        refine S_val rfl rfl (Y_ixg (und rfl) (siz rfl) rfl rfl (nat_lit' _) (Nat.le_of_ble_eq_true rfl)) ?_
        refine S_val rfl rfl (Y_loadPX 0 (und rfl) rfl rfl rfl (siz rfl) (Nat.le_of_ble_eq_true rfl) (w3_0 _ _ _)) ?_
        refine S_callV rfl rfl (bod rfl) (fun w hs => sb _) rfl rfl ?_
        refine S_mv rfl rfl rfl ?_
        refine S_val rfl rfl (Y_extract rfl rfl) ?_
        refine S_val rfl rfl (Y_extract rfl rfl) ?_
        refine S_as rfl rfl rfl ?_
        refine S_as rfl rfl rfl ?_
        refine S_nx ?_
        refine T_sr ?_
        refine S_val rfl rfl (Y_ixg (und rfl) (siz rfl) rfl rfl (nat_lit' _) (Nat.le_of_ble_eq_true rfl)) ?_
        refine S_val rfl rfl (Y_loadPX 0 (und rfl) rfl rfl rfl (siz rfl) (Nat.le_of_ble_eq_true rfl) (w3_1 _ _ _)) ?_
        refine S_callV rfl rfl (bod rfl) (fun w hs => se _) rfl rfl ?_
        refine S_mv rfl rfl rfl ?_
        refine S_val rfl rfl (Y_extract rfl rfl) ?_
        refine S_val rfl rfl (Y_extract rfl rfl) ?_
        refine S_as rfl rfl rfl ?_
        refine S_as rfl rfl rfl ?_
        refine S_nx ?_
        refine T_sr ?_
        refine S_val rfl rfl (Y_ixg (und rfl) (siz rfl) rfl rfl (nat_lit' _) (Nat.le_of_ble_eq_true rfl)) ?_
        refine S_val rfl rfl (Y_loadPX 0 (und rfl) rfl rfl rfl (siz rfl) (Nat.le_of_ble_eq_true rfl) (w3_2 _ _ _)) ?_
        refine S_callV rfl rfl (bod rfl) (fun w hs => sm _) rfl rfl ?_
        refine S_mv rfl rfl rfl ?_
        refine S_val rfl rfl (Y_extract rfl rfl) ?_
        refine S_val rfl rfl (Y_extract rfl rfl) ?_
        refine S_as rfl rfl rfl ?_
        refine S_as rfl rfl rfl ?_
        refine S_nx ?_
        refine T_seq ?_
        refine T_sr ?_
        refine S_mv rfl rfl rfl ?_
        refine S_val rfl rfl (Y_not rfl rfl) ?_
        refine S_mv rfl rfl rfl ?_
        refine S_mv rfl rfl rfl ?_
        refine S_val rfl rfl (Y_not rfl rfl) ?_
        refine S_val rfl rfl (Y_pick_f rfl rfl) ?_
        refine S_mv rfl rfl rfl ?_
        refine S_skip rfl rfl ?_
        refine S_skip rfl rfl ?_
        refine S_val rfl rfl (Y_pick_t rfl rfl) ?_
        refine S_nx ?_
        refine T_cond_true rfl ?_
        refine T_sr ?_
        refine S_as rfl rfl rfl ?_
        refine S_nx ?_
        refine T_ret ?_
        refine X_seq_ret ?_
        ((first | refine X_fin_ret ?_ | refine X_fin ?_); exact ⟨[_], [], .cons (.tmp rfl) .nil, Emb.nil _, rfl, rfl⟩)
    · rw [if_neg hb, decide_eq_false hb] at sb
      rw [if_neg (fun h => hb h.1)] at hg
      subst hg
      clear pt fr hf hhd hh1 hh2 lg hb
      refine T_sr ?_
      refine S_val rfl rfl (Y_ixg (und rfl) (siz rfl) rfl rfl (nat_lit' _) (Nat.le_of_ble_eq_true rfl)) ?_
      refine S_val rfl rfl (Y_loadPX 0 (und rfl) rfl rfl rfl (siz rfl) (Nat.le_of_ble_eq_true rfl) (w3_0 _ _ _)) ?_
      refine S_callV rfl rfl (bod rfl) (fun w hs => sb _) rfl rfl ?_
      refine S_mv rfl rfl rfl ?_
      refine S_val rfl rfl (Y_extract rfl rfl) ?_
      refine S_val rfl rfl (Y_extract rfl rfl) ?_
      refine S_as rfl rfl rfl ?_
      refine S_as rfl rfl rfl ?_
      refine S_nx ?_
      refine T_sr ?_
      refine S_val rfl rfl (Y_ixg (und rfl) (siz rfl) rfl rfl (nat_lit' _) (Nat.le_of_ble_eq_true rfl)) ?_
      refine S_val rfl rfl (Y_loadPX 0 (und rfl) rfl rfl rfl (siz rfl) (Nat.le_of_ble_eq_true rfl) (w3_1 _ _ _)) ?_
      refine S_callV rfl rfl (bod rfl) (fun w hs => se _) rfl rfl ?_
      refine S_mv rfl rfl rfl ?_
      refine S_val rfl rfl (Y_extract rfl rfl) ?_
      refine S_val rfl rfl (Y_extract rfl rfl) ?_
      refine S_as rfl rfl rfl ?_
      refine S_as rfl rfl rfl ?_
      refine S_nx ?_
      refine T_sr ?_
      refine S_val rfl rfl (Y_ixg (und rfl) (siz rfl) rfl rfl (nat_lit' _) (Nat.le_of_ble_eq_true rfl)) ?_
      refine S_val rfl rfl (Y_loadPX 0 (und rfl) rfl rfl rfl (siz rfl) (Nat.le_of_ble_eq_true rfl) (w3_2 _ _ _)) ?_
      refine S_callV rfl rfl (bod rfl) (fun w hs => sm _) rfl rfl ?_
      refine S_mv rfl rfl rfl ?_
      refine S_val rfl rfl (Y_extract rfl rfl) ?_
      refine S_val rfl rfl (Y_extract rfl rfl) ?_
      refine S_as rfl rfl rfl ?_
      refine S_as rfl rfl rfl ?_
      refine S_nx ?_
      refine T_seq ?_
      refine T_sr ?_
      refine S_mv rfl rfl rfl ?_
      refine S_val rfl rfl (Y_not rfl rfl) ?_
      refine S_mv rfl rfl rfl ?_
      refine S_skip rfl rfl ?_
      refine S_skip rfl rfl ?_
      refine S_val rfl rfl (Y_pick_t rfl rfl) ?_
      refine S_mv rfl rfl rfl ?_
      refine S_skip rfl rfl ?_
      refine S_skip rfl rfl ?_
      refine S_val rfl rfl (Y_pick_t rfl rfl) ?_
      refine S_nx ?_
      refine T_cond_true rfl ?_
      refine T_sr ?_
      refine S_as rfl rfl rfl ?_
      refine S_nx ?_
      refine T_ret ?_
      refine X_seq_ret ?_
      ((first | refine X_fin_ret ?_ | refine X_fin ?_); exact ⟨[_], [], .cons (.tmp rfl) .nil, Emb.nil _, rfl, rfl⟩)
end Go.Proofs.YtjolmphkmfbpbaaDoor
