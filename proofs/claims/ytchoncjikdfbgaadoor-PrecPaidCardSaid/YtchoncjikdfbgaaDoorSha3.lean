import Derived.Test.YtchoncjikdfbgaaDoorSha2
/- Package sha: Sum. -/
namespace Go.Proofs.YtchoncjikdfbgaaDoor
open Go.RowKit
set_option maxRecDepth 20000
set_option maxHeartbeats 40000000

def H0 : List U32 := [0x6a09e667, 0xbb67ae85, 0x3c6ef372, 0xa54ff53a, 0x510e527f, 0x9b05688c, 0x1f83d9ab, 0x5be0cd19]
theorem H0_bvl : bvl H0 = [1779033703, 3144134277, 1013904242, 2773480762, 1359893119, 2600822924, 528734635, 1541459225] := by decide
/-- The numbers after so many blocks. -/
def sums (K : List U32) (l : List U32) (bs : List U8) : Nat → List U32
  | 0 => l
  | i + 1 => blockF K (sums K l bs i) ((bs.drop (64 * i)).take 64)
theorem sums_zero (K l : List U32) (bs : List U8) : sums K l bs 0 = l := by rw [sums]
theorem sums_succ (K l : List U32) (bs : List U8) (i : Nat) : sums K l bs (i + 1) = blockF K (sums K l bs i) ((bs.drop (64 * i)).take 64) := by rw [sums]
theorem sums_length {K l : List U32} {bs : List U8} (h : l.length = 8) : ∀ i, (sums K l bs i).length = 8
  | 0 => by rw [sums_zero, h]
  | i + 1 => by rw [sums_succ, blockF_length (sums_length h i)]
/-- The last bytes: what is left, 128, noughts, the length: without the length. -/
def lastA (r : List U8) : List U8 := (r ++ (List.replicate 128 0).drop r.length).set r.length 128
/-- .. with so many bytes of the length. -/
def lastB (l : List U8) (e n : Nat) : Nat → List U8
  | 0 => l
  | i + 1 => (lastB l e n i).set (e - 1 - i) (BitVec.ofNat 8 (n / 2 ^ (8 * i)))
theorem lastB_zero (l : List U8) (e n : Nat) : lastB l e n 0 = l := by rw [lastB]
theorem lastB_succ (l : List U8) (e n i : Nat) : lastB l e n (i + 1) = (lastB l e n i).set (e - 1 - i) (BitVec.ofNat 8 (n / 2 ^ (8 * i))) := by rw [lastB]
theorem lastB_length (l : List U8) (e n : Nat) : ∀ i, (lastB l e n i).length = l.length
  | 0 => by rw [lastB_zero]
  | i + 1 => by rw [lastB_succ, List.length_set, lastB_length l e n i]
attribute [irreducible] sums lastB
theorem lastA_length {r : List U8} (h : r.length < 64) : (lastA r).length = 128 := by
  unfold lastA
  rw [List.length_set, List.length_append, List.length_drop, List.length_replicate]
  omega
/-- A number's byte. -/
def outs (l : List U32) : Nat → List U8
  | 0 => List.replicate 32 0
  | i + 1 => (outs l i).set i (((w0 l (i / 4)) >>> (24 - i % 4 * 8)).setWidth 8)
theorem outs_zero (l : List U32) : outs l 0 = List.replicate 32 0 := by rw [outs]
theorem outs_succ (l : List U32) (i : Nat) : outs l (i + 1) = (outs l i).set i (((w0 l (i / 4)) >>> (24 - i % 4 * 8)).setWidth 8) := by rw [outs]
theorem outs_length (l : List U32) : ∀ i, (outs l i).length = 32
  | 0 => by rw [outs_zero, List.length_replicate]
  | i + 1 => by rw [outs_succ, List.length_set, outs_length l i]
attribute [irreducible] outs
theorem byl_zero (n : Nat) : byl (List.replicate n 0) = List.replicate n 0 := by unfold byl; rw [List.map_replicate]; rfl
def endN (k : Nat) : Nat := if 56 ≤ k then 128 else 64
/-- The hash. -/
def sumF (K : List U32) (bs : List U8) : List U8 :=
  outs (sums K (sums K H0 bs (bs.length / 64)) (lastB (lastA (bs.drop (64 * (bs.length / 64)))) (endN (bs.length % 64)) (bs.length * 8) 8) (endN (bs.length % 64) / 64)) 32
theorem sum_any (K : List U32) (bs : List U8) (hK : K.length = 64) (hb : bs.length ≤ 1000000) (v : Value) (w : World) (hg : Rd w (.slice (some ⟨0, 0, none⟩) 64 64) .u32 (bvl K)) (hr : Rd w v .u8 (byl bs)) : Fn Tryd.prog 17 #[v] w fun u N => u = .agg (ints .u8 (byl (sumF K bs))) ∧ N = [] := by
  have bl := fun (l : List U32) (c : List U8) (hl : l.length = 8) (hc : c.length = 64) v w hg hr => block_any K l c hK hl hc v w hg hr
  have h0 := H0_bvl
  have hbl : (byl bs).length = bs.length := byl_length bs
  unfold sumF
  refine Fn_of (args := [v]) Tryd.func17 rfl Tryd.ntmps17 Tryd.results17 (by simp) ?_
  refine T_seq ?_
  refine T_region ?_
  refine S_allocA (zer rfl) rfl rfl fun _ => ?_
  refine S_nil ?_
  refine X_seq ?_
  refine T_seq ?_
  refine T_region ?_
  refine S_val rfl rfl (Y_build (und rfl) (siz rfl) (zer rfl) rfl rfl) ?_
  refine S_allocA (zer rfl) rfl rfl fun _ => ?_
  refine S_storeAI 1 (siz rfl) rfl rfl rfl rfl rfl rfl ?_
  refine S_nil ?_
  refine X_seq ?_
  refine T_seq ?_
  refine T_region ?_
  refine S_val rfl rfl (Y_move rfl) ?_
  refine S_val rfl rfl (Y_lenV rfl (und rfl) rfl (fun _ hs => Rd.st (by assumption) hs) (by assumption)) ?_
  refine S_val rfl rfl (Y_conv (und rfl) (und rfl) rfl (wu64 (by omega) (by omega))) ?_
  refine S_val rfl rfl (Y_mulU rfl rfl (nat_cast _) (nat_lit' _) rfl (by simp only [IntKind.bits]; omega)) ?_
  refine S_val rfl rfl (Y_assign rfl) ?_
  refine S_nil ?_
  refine X_seq ?_
  refine T_seq ?_
  refine T_block ?_
  rename_i b1 b2
  refine T_loop (α := Nat × Value) (fun a => 64 * a.1 ≤ bs.length ∧ Rd w a.2 .u8 (byl (bs.drop (64 * a.1))))
    (fun a => [(0, a.2), (2, .pointer (some ⟨b1, 0, none⟩)), (3, .pointer (some ⟨b2, 0, none⟩)), (4, .int .u64 (bs.length * 8 : Nat))])
    (fun a => [blk b1 (.cells (ints .u8 (List.replicate 32 0)) 37 (0, 0)), blk b2 (.cells (ints .u32 (bvl (sums K H0 bs a.1))) 67 (0, 0))])
    (fun a => bs.length - 64 * a.1) (0, v) (⟨by omega, by simpa using hr⟩) (by repeat (first | exact Env.sub_nil _ | (apply Env.sub_cons; rfl))) [] (by rw [sums_zero, h0]; rfl) ?_
  rintro ⟨i, u⟩ ⟨hi, hu⟩
  dsimp only at hi hu ⊢
  have hsl := sums_length (K := K) (bs := bs) (show H0.length = 8 from rfl) i
  have hul : (byl (bs.drop (64 * i))).length = bs.length - 64 * i := by rw [byl_length, List.length_drop]
  by_cases h : 64 ≤ bs.length - 64 * i
  · have hn := sums_succ K H0 bs i
    have hut : Rd w (vTake 64 u) .u8 (byl ((bs.drop (64 * i)).take 64)) := by
      rw [← byl_take]
      exact hu.takeV (by omega)
    have hud : Rd w (vDrop 64 u) .u8 (byl (bs.drop (64 * (i + 1)))) := by
      have := hu.dropV (j := 64) (by omega)
      rwa [byl_drop, List.drop_drop, show 64 * i + 64 = 64 * (i + 1) by omega] at this
    have h64 : 64 ≤ (byl (bs.drop (64 * i))).length := by omega
    have bl2 := fun w hg hr => bl (sums K H0 bs i) ((bs.drop (64 * i)).take 64) hsl (by rw [List.length_take, List.length_drop]; omega) (vTake 64 u) w hg hr
    rw [← hn] at bl2
    have hl8 : (bvl (sums K H0 bs i)).length = 8 := by rw [bvl_length, hsl]
    have hl9 : (bvl (sums K H0 bs (i + 1))).length = 8 := by rw [bvl_length, hn, blockF_length hsl]
    clear bl hn
    generalize hx1 : sums K H0 bs (i + 1) = s1 at *
    generalize sums K H0 bs i = s0 at *
    refine T_seq ?_
    refine T_seq ?_
    refine T_region ?_
    refine S_val rfl rfl (Y_move rfl) ?_
    refine S_val rfl rfl (Y_lenV rfl (und rfl) rfl (fun _ hs => Rd.st (by assumption) hs) (by assumption)) ?_
    refine S_val rfl rfl (Y_geq_t rfl rfl (by omega)) ?_
    refine S_nil ?_
    refine X_seq ?_
    refine T_cond_true rfl ?_
    refine T_skip ?_
    refine X_seq ?_
    refine T_block ?_
    refine T_seq ?_
    refine T_draw (by kernel_rfl) (by kernel_rfl) rfl ?_
    refine D0_valM rfl rfl rfl (Y_loadAI 1 (und rfl) rfl rfl rfl (siz rfl) (by assumption)) ?_
    refine D0_val rfl rfl rfl (Y_move rfl) ?_
    refine D0_val rfl rfl rfl (Y_sliceHiV (und rfl) (siz rfl) rfl rfl (fun _ hs => Rd.st (by assumption) hs) (nat_lit' _) (by assumption)) ?_
    refine D0_callV rfl rfl (bod rfl) (fun w hs => bl2 _ (Rd.st hg hs) (Rd.st hut hs)) rfl rfl ?_
    refine D0_storeAI 1 rfl (siz rfl) rfl rfl rfl (by assumption) (by assumption) rfl ?_
    refine D0_nil ?_
    refine X_seq ?_
    refine T_region ?_
    refine S_val rfl rfl (Y_move rfl) ?_
    refine S_val rfl rfl (Y_sliceLoV (und rfl) (siz rfl) rfl rfl (fun _ hs => Rd.st (by assumption) hs) (nat_lit' _) (by assumption)) ?_
    refine S_val rfl rfl (Y_assign rfl) ?_
    refine S_nil ?_
    refine X_blk ?_
    refine X_loop ?_
    exact ⟨(i + 1, vDrop 64 u), ⟨by (try dsimp only); omega, hud⟩, by (try dsimp only); omega, (by repeat (first | exact Env.sub_nil _ | (apply Env.sub_cons; rfl))), [], by (try dsimp only); rw [hx1]; rfl⟩
  · obtain rfl : i = bs.length / 64 := by omega
    obtain ⟨k, hk⟩ : ∃ k, k = bs.length % 64 := ⟨_, rfl⟩
    have hk2 : k = bs.length - 64 * (bs.length / 64) := by omega
    have hrl : (bs.drop (64 * (bs.length / 64))).length = k := by rw [List.length_drop, hk2]
    rw [← hk2] at hul
    have hmin : min (byl (bs.drop (64 * (bs.length / 64)))).length 128 = k := by rw [hul]; omega
    have hk64 : k < 64 := by omega
    have e1 : (List.replicate 128 (0 : Int)).take 0 ++ (byl (bs.drop (64 * (bs.length / 64)))).take k ++ (List.replicate 128 0).drop (0 + k) = byl ((bs.drop (64 * (bs.length / 64))) ++ (List.replicate 128 0).drop (bs.drop (64 * (bs.length / 64))).length) := by
      rw [List.take_zero, List.nil_append, List.take_of_length_le (by rw [hul]; omega), ← byl_append, hrl, ← byl_drop (List.replicate 128 0) k, byl_zero, Nat.zero_add]
    have e2 : (byl ((bs.drop (64 * (bs.length / 64))) ++ (List.replicate 128 0).drop (bs.drop (64 * (bs.length / 64))).length)).set k 128 = byl (lastA (bs.drop (64 * (bs.length / 64)))) := by
      unfold lastA
      rw [hrl]
      exact byl_set _ _ 128#8
    have hXl : ((bs.drop (64 * (bs.length / 64))) ++ (List.replicate 128 0).drop (bs.drop (64 * (bs.length / 64))).length).length = 128 := by
      rw [hrl, List.length_append, hrl, List.length_drop, List.length_replicate]
      omega
    have hAl := lastA_length (r := bs.drop (64 * (bs.length / 64))) (by omega)
    have hnb : bs.length * 8 < 18446744073709551616 := by omega
    rw [← hk]
    generalize bs.length * 8 = n8 at *
    generalize sums K H0 bs (bs.length / 64) = s0 at *
    generalize lastA (bs.drop (64 * (bs.length / 64))) = A at *
    generalize (bs.drop (64 * (bs.length / 64))) ++ (List.replicate 128 0).drop (bs.drop (64 * (bs.length / 64))).length = X at *
    generalize bs.drop (64 * (bs.length / 64)) = r at *
    generalize bs.length / 64 = nb at *
    have hend : (56 ≤ k ∧ endN k = 128) ∨ (¬ 56 ≤ k ∧ endN k = 64) := by
      unfold endN
      split
      · exact .inl ⟨by assumption, rfl⟩
      · exact .inr ⟨by assumption, rfl⟩
    have h128 : (List.replicate 128 (0 : Int)).length = 128 := List.length_replicate
    rcases hend with ⟨h56, he⟩ | ⟨h56, he⟩
    · rw [he]
      refine T_seq ?_
      refine T_seq ?_
      refine T_region ?_
      refine S_val rfl rfl (Y_move rfl) ?_
      refine S_val rfl rfl (Y_lenV rfl (und rfl) rfl (fun _ hs => Rd.st (by assumption) hs) (by assumption)) ?_
      refine S_val rfl rfl (Y_geq_f rfl rfl (by omega)) ?_
      refine S_nil ?_
      refine X_seq ?_
      refine T_cond_false rfl ?_
      refine T_exit ?_
      refine X_seq_exit ?_
      refine X_loop_exit ?_
      refine X_blk_hit rfl ?_
      refine X_seq ?_
      refine T_seq ?_
      refine T_region ?_
      refine S_allocA (zer rfl) rfl rfl fun _ => ?_
      refine S_nil ?_
      refine X_seq ?_
      refine T_seq ?_
      refine T_region ?_
      refine S_val rfl rfl (Y_sliceArr (und rfl) (siz rfl) rfl) ?_
      refine S_val rfl rfl (Y_move rfl) ?_
      rename_i b3
      refine S_copyB 2 rfl (und rfl) (siz rfl) rfl rfl rfl (fun _ hs => Rd.st hu hs) hmin (by rw [h128]; omega) rfl rfl ?_
      rw [e1]
      refine S_val rfl rfl (Y_assign rfl) ?_
      refine S_nil ?_
      refine X_seq ?_
      refine T_seq ?_
      refine T_region ?_
      refine S_val rfl rfl (Y_move rfl) ?_
      refine S_val rfl rfl (Y_ixa (und rfl) (siz rfl) rfl rfl (nat_cast _) (by omega)) ?_
      refine S_storeI 2 (siz rfl) rfl rfl rfl (by simp; omega) rfl rfl ?_
      refine S_nil ?_
      refine X_seq ?_
      refine T_seq ?_
      refine T_region ?_
      refine S_val rfl rfl (Y_assign rfl) ?_
      refine S_nil ?_
      refine X_seq ?_
      refine T_seq ?_
      refine T_seq ?_
      refine T_region ?_
      refine S_val rfl rfl (Y_move rfl) ?_
      refine S_val rfl rfl (Y_geq_t rfl rfl (by omega)) ?_
      refine S_nil ?_
      refine X_seq ?_
      refine T_cond_true rfl ?_
      refine T_region ?_
      refine S_val rfl rfl (Y_assign rfl) ?_
      refine S_nil ?_
      refine X_seq ?_
      refine T_seq ?_
      refine T_seq ?_
      refine T_region ?_
      refine S_val rfl rfl (Y_move rfl) ?_
      refine S_nil ?_
      refine X_seq ?_
      refine T_block ?_
      refine T_loop (α := Nat) (fun i => i ≤ 8)
        (fun i => [(2, .pointer (some ⟨b1, 0, none⟩)), (3, .pointer (some ⟨b2, 0, none⟩)), (4, .int .u64 (n8 : Nat)), (5, .pointer (some ⟨b3, 0, none⟩)), (7, .int .i64 (128 : Nat)), (33, .int .i64 i)])
        (fun i => [blk b1 (.cells (ints .u8 (List.replicate 32 0)) 37 (0, 0)), blk b2 (.cells (ints .u32 (bvl s0)) 67 (0, 0)), blk b3 (.cells (ints .u8 (byl (lastB A 128 n8 i))) 69 (0, 0))])
        (fun i => 8 - i) 0 (by omega) (by repeat (first | exact Env.sub_nil _ | (apply Env.sub_cons; rfl))) [] (by rw [lastB_zero, ← e2]; rfl) ?_
      intro i hi
      have hBl : (lastB A 128 n8 i).length = 128 := by rw [lastB_length, hAl]
      by_cases h8 : i < 8
      · have hset : (byl (lastB A 128 n8 i)).set (128 - 1 - i) ((n8 / 2 ^ (8 * i) % 256 : Nat) : Int) = byl (lastB A 128 n8 (i + 1)) := by
          rw [lastB_succ, ← byl_set, BitVec.toNat_ofNat]
        generalize lastB A 128 n8 i = B at *
        refine T_seq ?_
        refine T_region ?_
        refine S_val rfl rfl (Y_lss_t rfl rfl (by omega)) ?_
        refine S_nil ?_
        refine X_seq ?_
        refine T_seq ?_
        refine T_cond_true rfl ?_
        refine T_skip ?_
        refine X_seq ?_
        refine T_seq ?_
        refine T_block ?_
        refine T_seq ?_
        refine T_region ?_
        refine S_val rfl rfl (Y_move rfl) ?_
        refine S_val rfl rfl (Y_assign rfl) ?_
        refine S_nil ?_
        refine X_seq ?_
        refine T_region ?_
        refine S_val rfl rfl (Y_move rfl) ?_
        refine S_val rfl rfl (Y_subN rfl rfl (nat_cast _) (nat_lit' _) (Nat.le_of_ble_eq_true rfl) (Nat.le_of_ble_eq_true rfl)) ?_
        refine S_val rfl rfl (Y_move rfl) ?_
        refine S_val rfl rfl (Y_subN rfl rfl (nat_cast _) (nat_cast _) (by omega) (Nat.le_of_ble_eq_true rfl)) ?_
        refine S_val rfl rfl (Y_move rfl) ?_
        refine S_val rfl rfl (Y_move rfl) ?_
        refine S_val rfl rfl (Y_mulN rfl rfl (nat_lit' _) (nat_cast _) (by omega)) ?_
        refine S_val rfl rfl (Y_shrN rfl rfl (nat_cast _) (nat_cast _) (by simp only [IntKind.bits]; assumption)) ?_
        refine S_val rfl rfl (Y_conv (und rfl) (und rfl) rfl wu8n) ?_
        refine S_val rfl rfl (Y_ixa (und rfl) (siz rfl) rfl rfl (nat_cast _) (by omega)) ?_
        refine S_storeI 2 (siz rfl) rfl rfl rfl (by simp; omega) rfl rfl ?_
        refine S_nil ?_
        refine X_blk ?_
        refine X_seq ?_
        refine T_region ?_
        refine S_val rfl rfl (Y_addN rfl rfl (nat_cast _) (nat_lit' _) (by omega)) ?_
        refine S_val rfl rfl (Y_move rfl) ?_
        refine S_nil ?_
        refine X_loop ?_
        exact ⟨i + 1, by omega, by omega, (by repeat (first | exact Env.sub_nil _ | (apply Env.sub_cons; rfl))), [], by (try dsimp only); rw [← hset]; rfl⟩
      · obtain rfl : i = 8 := by omega
        generalize lastB A 128 n8 8 = B at *
        refine T_seq ?_
        refine T_region ?_
        refine S_val rfl rfl (Y_lss_f rfl rfl (by decide)) ?_
        refine S_nil ?_
        refine X_seq ?_
        refine T_seq ?_
        refine T_cond_false rfl ?_
        refine T_exit ?_
        refine X_seq_exit ?_
        refine X_loop_exit ?_
        refine X_blk_hit rfl ?_
        refine X_seq ?_
        refine T_seq ?_
        refine T_seq ?_
        refine T_region ?_
        refine S_val rfl rfl (Y_assign rfl) ?_
        refine S_nil ?_
        refine X_seq ?_
        refine T_block ?_
        refine T_loop (α := Nat) (fun j => 64 * j ≤ 128)
          (fun j => [(2, .pointer (some ⟨b1, 0, none⟩)), (3, .pointer (some ⟨b2, 0, none⟩)), (5, .pointer (some ⟨b3, 0, none⟩)), (7, .int .i64 (128 : Nat)), (9, .int .i64 (64 * j : Nat))])
          (fun j => [blk b1 (.cells (ints .u8 (List.replicate 32 0)) 37 (0, 0)), blk b2 (.cells (ints .u32 (bvl (sums K s0 B j))) 67 (0, 0)), blk b3 (.cells (ints .u8 (byl B)) 69 (0, 0))])
          (fun j => 128 - 64 * j) 0 (by omega) (by repeat (first | exact Env.sub_nil _ | (apply Env.sub_cons; rfl))) [] (by rw [sums_zero]; rfl) ?_
        intro j hj
        have hjl := sums_length (K := K) (bs := B) hsl j
        by_cases hj2 : 64 * j < 128
        · have hn := sums_succ K s0 B j
          have hcl : ((B.drop (64 * j)).take 64).length = 64 := by rw [List.length_take, List.length_drop]; omega
          have bl2 := fun v w hg hr => bl (sums K s0 B j) ((B.drop (64 * j)).take 64) hjl hcl v w hg hr
          rw [← hn] at bl2
          have hl8 : (bvl (sums K s0 B j)).length = 8 := by rw [bvl_length, hjl]
          have hl9 : (bvl (sums K s0 B (j + 1))).length = 8 := by rw [bvl_length, hn, blockF_length hjl]
          have hown : ∀ i p, (byl ((B.drop (64 * j)).take 64))[i]? = some p → (byl B)[64 * j + i]? = some p := fun i p hp => by
            rw [← byl_take, ← byl_drop, List.getElem?_take] at hp
            split at hp
            · rwa [List.getElem?_drop] at hp
            · cases hp
          have hown2 : (byl ((B.drop (64 * j)).take 64)).length = 64 * j + 64 - 64 * j := by rw [byl_length, hcl]; omega
          clear bl hn
          generalize hx1 : sums K s0 B (j + 1) = s1 at *
          generalize sums K s0 B j = s2 at *
          refine T_seq ?_
          refine T_seq ?_
          refine T_region ?_
          refine S_val rfl rfl (Y_move rfl) ?_
          refine S_val rfl rfl (Y_move rfl) ?_
          refine S_val rfl rfl (Y_lss_t rfl rfl (by omega)) ?_
          refine S_nil ?_
          refine X_seq ?_
          refine T_cond_true rfl ?_
          refine T_skip ?_
          refine X_seq ?_
          refine T_seq ?_
          refine T_block ?_
          refine T_draw (by kernel_rfl) (by kernel_rfl) rfl ?_
          refine D0_valM rfl rfl rfl (Y_loadAI 1 (und rfl) rfl rfl rfl (siz rfl) (by assumption)) ?_
          refine D0_val rfl rfl rfl (Y_move rfl) ?_
          refine D0_val rfl rfl rfl (Y_move rfl) ?_
          refine D0_val rfl rfl rfl (Y_addN rfl rfl (nat_cast _) (nat_lit' _) (by omega)) ?_
          refine D0_val rfl rfl rfl (Y_sliceArrLH (und rfl) (siz rfl) rfl rfl rfl (nat_cast _) (nat_cast _) (by omega) (by omega) (by assumption)) ?_
          refine D0_callV rfl rfl (bod rfl) (fun w hs => bl2 _ _ (Rd.st hg hs) (hown2 ▸ Rd.own hs (q := 2) rfl hown (by omega))) rfl rfl ?_
          refine D0_storeAI 1 rfl (siz rfl) rfl rfl rfl (by assumption) (by assumption) rfl ?_
          refine D0_nil ?_
          refine X_blk ?_
          refine X_seq ?_
          refine T_region ?_
          refine S_val rfl rfl (Y_move rfl) ?_
          refine S_val rfl rfl (Y_addN rfl rfl (nat_cast _) (nat_lit' _) (by omega)) ?_
          refine S_val rfl rfl (Y_assign rfl) ?_
          refine S_nil ?_
          refine X_loop ?_
          exact ⟨j + 1, by (try dsimp only); omega, by (try dsimp only); omega, (by repeat (first | exact Env.sub_nil _ | (apply Env.sub_cons; rfl))), [], by (try dsimp only); rw [hx1]; rfl⟩
        · obtain rfl : j = 128 / 64 := by omega
          generalize sums K s0 B (128 / 64) = s3 at *
          refine T_seq ?_
          refine T_seq ?_
          refine T_region ?_
          refine S_val rfl rfl (Y_move rfl) ?_
          refine S_val rfl rfl (Y_move rfl) ?_
          refine S_val rfl rfl (Y_lss_f rfl rfl (by decide)) ?_
          refine S_nil ?_
          refine X_seq ?_
          refine T_cond_false rfl ?_
          refine T_exit ?_
          refine X_seq_exit ?_
          refine X_loop_exit ?_
          refine X_blk_hit rfl ?_
          refine X_seq ?_
          refine T_seq ?_
          refine T_region ?_
          refine S_allocA (zer rfl) rfl rfl fun _ => ?_
          refine S_nil ?_
          refine X_seq ?_
          refine T_seq ?_
          refine T_seq ?_
          refine T_region ?_
          refine S_val rfl rfl (Y_move rfl) ?_
          refine S_nil ?_
          refine X_seq ?_
          refine T_block ?_
          rename_i b4
          refine T_loop (α := Nat) (fun i => i ≤ 32)
            (fun i => [(2, .pointer (some ⟨b1, 0, none⟩)), (3, .pointer (some ⟨b2, 0, none⟩)), (10, .pointer (some ⟨b4, 0, none⟩)), (58, .int .i64 i)])
            (fun i => [blk b1 (.cells (ints .u8 (List.replicate 32 0)) 37 (0, 0)), blk b2 (.cells (ints .u32 (bvl s3)) 67 (0, 0)), blk b3 (.cells (ints .u8 (byl B)) 69 (0, 0)), blk b4 (.cells (ints .u8 (byl (outs s3 i))) 37 (0, 0))])
            (fun i => 32 - i) 0 (by omega) (by repeat (first | exact Env.sub_nil _ | (apply Env.sub_cons; rfl))) [] (by rw [outs_zero, byl_zero]; rfl) ?_
          intro i hi
          have hol := outs_length s3 i
          by_cases h32 : i < 32
          · have hq := bvl_w0 hjl (show i / 4 < 8 by omega)
            have hset : (byl (outs s3 i)).set i (((((w0 s3 (i / 4)) >>> (24 - i % 4 * 8)).setWidth 8).toNat : Nat) : Int) = byl (outs s3 (i + 1)) := by
              rw [outs_succ, ← byl_set]
            generalize outs s3 i = Z at *
            generalize w0 s3 (i / 4) = z at *
            refine T_seq ?_
            refine T_region ?_
            refine S_val rfl rfl (Y_lss_t rfl rfl (by omega)) ?_
            refine S_nil ?_
            refine X_seq ?_
            refine T_seq ?_
            refine T_cond_true rfl ?_
            refine T_skip ?_
            refine X_seq ?_
            refine T_seq ?_
            refine T_block ?_
            refine T_seq ?_
            refine T_region ?_
            refine S_val rfl rfl (Y_move rfl) ?_
            refine S_val rfl rfl (Y_assign rfl) ?_
            refine S_nil ?_
            refine X_seq ?_
            refine T_region ?_
            refine S_val rfl rfl (Y_move rfl) ?_
            refine S_val rfl rfl (Y_move rfl) ?_
            refine S_val rfl rfl (Y_quoN rfl rfl (nat_cast _) (nat_lit' _) (Nat.succ_ne_zero _) (by first | with_reducible exact xi64 (by omega) | with_reducible exact x64 (by omega) | with_reducible exact x8 (by omega) | with_reducible exact x32 (by omega))) ?_
            refine S_val rfl rfl (Y_ixa (und rfl) (siz rfl) rfl rfl (nat_cast _) (by omega)) ?_
            refine S_val rfl rfl (Y_loadI 1 (und rfl) rfl rfl rfl (by assumption)) ?_
            refine S_val rfl rfl (Y_move rfl) ?_
            refine S_val rfl rfl (Y_remN rfl rfl (nat_cast _) (nat_lit' _) (Nat.succ_ne_zero _)) ?_
            refine S_val rfl rfl (Y_mulN rfl rfl (nat_cast _) (nat_lit' _) (by omega)) ?_
            refine S_val rfl rfl (Y_subN rfl rfl (nat_lit' _) (nat_cast _) (by omega) (Nat.le_of_ble_eq_true rfl)) ?_
            refine S_val rfl rfl (Y_bshr rfl rfl (nat_cast _)) ?_
            refine S_val rfl rfl (Y_bcut (und rfl) (und rfl) rfl) ?_
            refine S_val rfl rfl (Y_ixa (und rfl) (siz rfl) rfl rfl (nat_cast _) (by assumption)) ?_
            refine S_storeI 3 (siz rfl) rfl rfl rfl (by simp; omega) rfl rfl ?_
            refine S_nil ?_
            refine X_blk ?_
            refine X_seq ?_
            refine T_region ?_
            refine S_val rfl rfl (Y_addN rfl rfl (nat_cast _) (nat_lit' _) (by omega)) ?_
            refine S_val rfl rfl (Y_move rfl) ?_
            refine S_nil ?_
            refine X_loop ?_
            exact ⟨i + 1, by omega, by omega, (by repeat (first | exact Env.sub_nil _ | (apply Env.sub_cons; rfl))), [], by (try dsimp only); rw [← hset]; rfl⟩
          · obtain rfl : i = 32 := by omega
            generalize outs s3 32 = Z at *
            have hz : (byl Z).length = 32 := by rw [byl_length, hol]
            have hz0 : (List.replicate 32 (0 : Int)).length = 32 := List.length_replicate
            refine T_seq ?_
            refine T_region ?_
            refine S_val rfl rfl (Y_lss_f rfl rfl (by decide)) ?_
            refine S_nil ?_
            refine X_seq ?_
            refine T_seq ?_
            refine T_cond_false rfl ?_
            refine T_exit ?_
            refine X_seq_exit ?_
            refine X_loop_exit ?_
            refine X_blk_hit rfl ?_
            refine X_seq ?_
            refine T_seq ?_
            refine T_region ?_
            refine S_val rfl rfl (Y_loadAI 3 (und rfl) rfl rfl rfl (siz rfl) (by assumption)) ?_
            refine S_storeAI 0 (siz rfl) rfl rfl rfl rfl (by assumption) rfl ?_
            refine S_nil ?_
            refine X_seq ?_
            refine T_ret ?_
            ((first | refine X_fin_ret ?_ | refine X_fin ?_); exact ⟨[_], [], .cons (.agg 0 rfl (und rfl) rfl rfl (by rw [ints_size, hz]; exact siz rfl)) .nil, Emb.nil _, rfl, rfl⟩)
    · rw [he]
      refine T_seq ?_
      refine T_seq ?_
      refine T_region ?_
      refine S_val rfl rfl (Y_move rfl) ?_
      refine S_val rfl rfl (Y_lenV rfl (und rfl) rfl (fun _ hs => Rd.st (by assumption) hs) (by assumption)) ?_
      refine S_val rfl rfl (Y_geq_f rfl rfl (by omega)) ?_
      refine S_nil ?_
      refine X_seq ?_
      refine T_cond_false rfl ?_
      refine T_exit ?_
      refine X_seq_exit ?_
      refine X_loop_exit ?_
      refine X_blk_hit rfl ?_
      refine X_seq ?_
      refine T_seq ?_
      refine T_region ?_
      refine S_allocA (zer rfl) rfl rfl fun _ => ?_
      refine S_nil ?_
      refine X_seq ?_
      refine T_seq ?_
      refine T_region ?_
      refine S_val rfl rfl (Y_sliceArr (und rfl) (siz rfl) rfl) ?_
      refine S_val rfl rfl (Y_move rfl) ?_
      rename_i b3
      refine S_copyB 2 rfl (und rfl) (siz rfl) rfl rfl rfl (fun _ hs => Rd.st hu hs) hmin (by rw [h128]; omega) rfl rfl ?_
      rw [e1]
      refine S_val rfl rfl (Y_assign rfl) ?_
      refine S_nil ?_
      refine X_seq ?_
      refine T_seq ?_
      refine T_region ?_
      refine S_val rfl rfl (Y_move rfl) ?_
      refine S_val rfl rfl (Y_ixa (und rfl) (siz rfl) rfl rfl (nat_cast _) (by omega)) ?_
      refine S_storeI 2 (siz rfl) rfl rfl rfl (by simp; omega) rfl rfl ?_
      refine S_nil ?_
      refine X_seq ?_
      refine T_seq ?_
      refine T_region ?_
      refine S_val rfl rfl (Y_assign rfl) ?_
      refine S_nil ?_
      refine X_seq ?_
      refine T_seq ?_
      refine T_seq ?_
      refine T_region ?_
      refine S_val rfl rfl (Y_move rfl) ?_
      refine S_val rfl rfl (Y_geq_f rfl rfl (by omega)) ?_
      refine S_nil ?_
      refine X_seq ?_
      refine T_cond_false rfl ?_
      refine T_skip ?_
      refine X_seq ?_
      refine T_seq ?_
      refine T_seq ?_
      refine T_region ?_
      refine S_val rfl rfl (Y_move rfl) ?_
      refine S_nil ?_
      refine X_seq ?_
      refine T_block ?_
      refine T_loop (α := Nat) (fun i => i ≤ 8)
        (fun i => [(2, .pointer (some ⟨b1, 0, none⟩)), (3, .pointer (some ⟨b2, 0, none⟩)), (4, .int .u64 (n8 : Nat)), (5, .pointer (some ⟨b3, 0, none⟩)), (7, .int .i64 (64 : Nat)), (33, .int .i64 i)])
        (fun i => [blk b1 (.cells (ints .u8 (List.replicate 32 0)) 37 (0, 0)), blk b2 (.cells (ints .u32 (bvl s0)) 67 (0, 0)), blk b3 (.cells (ints .u8 (byl (lastB A 64 n8 i))) 69 (0, 0))])
        (fun i => 8 - i) 0 (by omega) (by repeat (first | exact Env.sub_nil _ | (apply Env.sub_cons; rfl))) [] (by rw [lastB_zero, ← e2]; rfl) ?_
      intro i hi
      have hBl : (lastB A 64 n8 i).length = 128 := by rw [lastB_length, hAl]
      by_cases h8 : i < 8
      · have hset : (byl (lastB A 64 n8 i)).set (64 - 1 - i) ((n8 / 2 ^ (8 * i) % 256 : Nat) : Int) = byl (lastB A 64 n8 (i + 1)) := by
          rw [lastB_succ, ← byl_set, BitVec.toNat_ofNat]
        generalize lastB A 64 n8 i = B at *
        refine T_seq ?_
        refine T_region ?_
        refine S_val rfl rfl (Y_lss_t rfl rfl (by omega)) ?_
        refine S_nil ?_
        refine X_seq ?_
        refine T_seq ?_
        refine T_cond_true rfl ?_
        refine T_skip ?_
        refine X_seq ?_
        refine T_seq ?_
        refine T_block ?_
        refine T_seq ?_
        refine T_region ?_
        refine S_val rfl rfl (Y_move rfl) ?_
        refine S_val rfl rfl (Y_assign rfl) ?_
        refine S_nil ?_
        refine X_seq ?_
        refine T_region ?_
        refine S_val rfl rfl (Y_move rfl) ?_
        refine S_val rfl rfl (Y_subN rfl rfl (nat_cast _) (nat_lit' _) (Nat.le_of_ble_eq_true rfl) (Nat.le_of_ble_eq_true rfl)) ?_
        refine S_val rfl rfl (Y_move rfl) ?_
        refine S_val rfl rfl (Y_subN rfl rfl (nat_cast _) (nat_cast _) (by omega) (Nat.le_of_ble_eq_true rfl)) ?_
        refine S_val rfl rfl (Y_move rfl) ?_
        refine S_val rfl rfl (Y_move rfl) ?_
        refine S_val rfl rfl (Y_mulN rfl rfl (nat_lit' _) (nat_cast _) (by omega)) ?_
        refine S_val rfl rfl (Y_shrN rfl rfl (nat_cast _) (nat_cast _) (by simp only [IntKind.bits]; assumption)) ?_
        refine S_val rfl rfl (Y_conv (und rfl) (und rfl) rfl wu8n) ?_
        refine S_val rfl rfl (Y_ixa (und rfl) (siz rfl) rfl rfl (nat_cast _) (by omega)) ?_
        refine S_storeI 2 (siz rfl) rfl rfl rfl (by simp; omega) rfl rfl ?_
        refine S_nil ?_
        refine X_blk ?_
        refine X_seq ?_
        refine T_region ?_
        refine S_val rfl rfl (Y_addN rfl rfl (nat_cast _) (nat_lit' _) (by omega)) ?_
        refine S_val rfl rfl (Y_move rfl) ?_
        refine S_nil ?_
        refine X_loop ?_
        exact ⟨i + 1, by omega, by omega, (by repeat (first | exact Env.sub_nil _ | (apply Env.sub_cons; rfl))), [], by (try dsimp only); rw [← hset]; rfl⟩
      · obtain rfl : i = 8 := by omega
        generalize lastB A 64 n8 8 = B at *
        refine T_seq ?_
        refine T_region ?_
        refine S_val rfl rfl (Y_lss_f rfl rfl (by decide)) ?_
        refine S_nil ?_
        refine X_seq ?_
        refine T_seq ?_
        refine T_cond_false rfl ?_
        refine T_exit ?_
        refine X_seq_exit ?_
        refine X_loop_exit ?_
        refine X_blk_hit rfl ?_
        refine X_seq ?_
        refine T_seq ?_
        refine T_seq ?_
        refine T_region ?_
        refine S_val rfl rfl (Y_assign rfl) ?_
        refine S_nil ?_
        refine X_seq ?_
        refine T_block ?_
        refine T_loop (α := Nat) (fun j => 64 * j ≤ 64)
          (fun j => [(2, .pointer (some ⟨b1, 0, none⟩)), (3, .pointer (some ⟨b2, 0, none⟩)), (5, .pointer (some ⟨b3, 0, none⟩)), (7, .int .i64 (64 : Nat)), (9, .int .i64 (64 * j : Nat))])
          (fun j => [blk b1 (.cells (ints .u8 (List.replicate 32 0)) 37 (0, 0)), blk b2 (.cells (ints .u32 (bvl (sums K s0 B j))) 67 (0, 0)), blk b3 (.cells (ints .u8 (byl B)) 69 (0, 0))])
          (fun j => 64 - 64 * j) 0 (by omega) (by repeat (first | exact Env.sub_nil _ | (apply Env.sub_cons; rfl))) [] (by rw [sums_zero]; rfl) ?_
        intro j hj
        have hjl := sums_length (K := K) (bs := B) hsl j
        by_cases hj2 : 64 * j < 64
        · have hn := sums_succ K s0 B j
          have hcl : ((B.drop (64 * j)).take 64).length = 64 := by rw [List.length_take, List.length_drop]; omega
          have bl2 := fun v w hg hr => bl (sums K s0 B j) ((B.drop (64 * j)).take 64) hjl hcl v w hg hr
          rw [← hn] at bl2
          have hl8 : (bvl (sums K s0 B j)).length = 8 := by rw [bvl_length, hjl]
          have hl9 : (bvl (sums K s0 B (j + 1))).length = 8 := by rw [bvl_length, hn, blockF_length hjl]
          have hown : ∀ i p, (byl ((B.drop (64 * j)).take 64))[i]? = some p → (byl B)[64 * j + i]? = some p := fun i p hp => by
            rw [← byl_take, ← byl_drop, List.getElem?_take] at hp
            split at hp
            · rwa [List.getElem?_drop] at hp
            · cases hp
          have hown2 : (byl ((B.drop (64 * j)).take 64)).length = 64 * j + 64 - 64 * j := by rw [byl_length, hcl]; omega
          clear bl hn
          generalize hx1 : sums K s0 B (j + 1) = s1 at *
          generalize sums K s0 B j = s2 at *
          refine T_seq ?_
          refine T_seq ?_
          refine T_region ?_
          refine S_val rfl rfl (Y_move rfl) ?_
          refine S_val rfl rfl (Y_move rfl) ?_
          refine S_val rfl rfl (Y_lss_t rfl rfl (by omega)) ?_
          refine S_nil ?_
          refine X_seq ?_
          refine T_cond_true rfl ?_
          refine T_skip ?_
          refine X_seq ?_
          refine T_seq ?_
          refine T_block ?_
          refine T_draw (by kernel_rfl) (by kernel_rfl) rfl ?_
          refine D0_valM rfl rfl rfl (Y_loadAI 1 (und rfl) rfl rfl rfl (siz rfl) (by assumption)) ?_
          refine D0_val rfl rfl rfl (Y_move rfl) ?_
          refine D0_val rfl rfl rfl (Y_move rfl) ?_
          refine D0_val rfl rfl rfl (Y_addN rfl rfl (nat_cast _) (nat_lit' _) (by omega)) ?_
          refine D0_val rfl rfl rfl (Y_sliceArrLH (und rfl) (siz rfl) rfl rfl rfl (nat_cast _) (nat_cast _) (by omega) (by omega) (by omega)) ?_
          refine D0_callV rfl rfl (bod rfl) (fun w hs => bl2 _ _ (Rd.st hg hs) (hown2 ▸ Rd.own hs (q := 2) rfl hown (by omega))) rfl rfl ?_
          refine D0_storeAI 1 rfl (siz rfl) rfl rfl rfl (by assumption) (by assumption) rfl ?_
          refine D0_nil ?_
          refine X_blk ?_
          refine X_seq ?_
          refine T_region ?_
          refine S_val rfl rfl (Y_move rfl) ?_
          refine S_val rfl rfl (Y_addN rfl rfl (nat_cast _) (nat_lit' _) (by omega)) ?_
          refine S_val rfl rfl (Y_assign rfl) ?_
          refine S_nil ?_
          refine X_loop ?_
          exact ⟨j + 1, by (try dsimp only); omega, by (try dsimp only); omega, (by repeat (first | exact Env.sub_nil _ | (apply Env.sub_cons; rfl))), [], by (try dsimp only); rw [hx1]; rfl⟩
        · obtain rfl : j = 64 / 64 := by omega
          generalize sums K s0 B (64 / 64) = s3 at *
          refine T_seq ?_
          refine T_seq ?_
          refine T_region ?_
          refine S_val rfl rfl (Y_move rfl) ?_
          refine S_val rfl rfl (Y_move rfl) ?_
          refine S_val rfl rfl (Y_lss_f rfl rfl (by decide)) ?_
          refine S_nil ?_
          refine X_seq ?_
          refine T_cond_false rfl ?_
          refine T_exit ?_
          refine X_seq_exit ?_
          refine X_loop_exit ?_
          refine X_blk_hit rfl ?_
          refine X_seq ?_
          refine T_seq ?_
          refine T_region ?_
          refine S_allocA (zer rfl) rfl rfl fun _ => ?_
          refine S_nil ?_
          refine X_seq ?_
          refine T_seq ?_
          refine T_seq ?_
          refine T_region ?_
          refine S_val rfl rfl (Y_move rfl) ?_
          refine S_nil ?_
          refine X_seq ?_
          refine T_block ?_
          rename_i b4
          refine T_loop (α := Nat) (fun i => i ≤ 32)
            (fun i => [(2, .pointer (some ⟨b1, 0, none⟩)), (3, .pointer (some ⟨b2, 0, none⟩)), (10, .pointer (some ⟨b4, 0, none⟩)), (58, .int .i64 i)])
            (fun i => [blk b1 (.cells (ints .u8 (List.replicate 32 0)) 37 (0, 0)), blk b2 (.cells (ints .u32 (bvl s3)) 67 (0, 0)), blk b3 (.cells (ints .u8 (byl B)) 69 (0, 0)), blk b4 (.cells (ints .u8 (byl (outs s3 i))) 37 (0, 0))])
            (fun i => 32 - i) 0 (by omega) (by repeat (first | exact Env.sub_nil _ | (apply Env.sub_cons; rfl))) [] (by rw [outs_zero, byl_zero]; rfl) ?_
          intro i hi
          have hol := outs_length s3 i
          by_cases h32 : i < 32
          · have hq := bvl_w0 hjl (show i / 4 < 8 by omega)
            have hset : (byl (outs s3 i)).set i (((((w0 s3 (i / 4)) >>> (24 - i % 4 * 8)).setWidth 8).toNat : Nat) : Int) = byl (outs s3 (i + 1)) := by
              rw [outs_succ, ← byl_set]
            generalize outs s3 i = Z at *
            generalize w0 s3 (i / 4) = z at *
            refine T_seq ?_
            refine T_region ?_
            refine S_val rfl rfl (Y_lss_t rfl rfl (by omega)) ?_
            refine S_nil ?_
            refine X_seq ?_
            refine T_seq ?_
            refine T_cond_true rfl ?_
            refine T_skip ?_
            refine X_seq ?_
            refine T_seq ?_
            refine T_block ?_
            refine T_seq ?_
            refine T_region ?_
            refine S_val rfl rfl (Y_move rfl) ?_
            refine S_val rfl rfl (Y_assign rfl) ?_
            refine S_nil ?_
            refine X_seq ?_
            refine T_region ?_
            refine S_val rfl rfl (Y_move rfl) ?_
            refine S_val rfl rfl (Y_move rfl) ?_
            refine S_val rfl rfl (Y_quoN rfl rfl (nat_cast _) (nat_lit' _) (Nat.succ_ne_zero _) (by first | with_reducible exact xi64 (by omega) | with_reducible exact x64 (by omega) | with_reducible exact x8 (by omega) | with_reducible exact x32 (by omega))) ?_
            refine S_val rfl rfl (Y_ixa (und rfl) (siz rfl) rfl rfl (nat_cast _) (by omega)) ?_
            refine S_val rfl rfl (Y_loadI 1 (und rfl) rfl rfl rfl (by assumption)) ?_
            refine S_val rfl rfl (Y_move rfl) ?_
            refine S_val rfl rfl (Y_remN rfl rfl (nat_cast _) (nat_lit' _) (Nat.succ_ne_zero _)) ?_
            refine S_val rfl rfl (Y_mulN rfl rfl (nat_cast _) (nat_lit' _) (by omega)) ?_
            refine S_val rfl rfl (Y_subN rfl rfl (nat_lit' _) (nat_cast _) (by omega) (Nat.le_of_ble_eq_true rfl)) ?_
            refine S_val rfl rfl (Y_bshr rfl rfl (nat_cast _)) ?_
            refine S_val rfl rfl (Y_bcut (und rfl) (und rfl) rfl) ?_
            refine S_val rfl rfl (Y_ixa (und rfl) (siz rfl) rfl rfl (nat_cast _) (by assumption)) ?_
            refine S_storeI 3 (siz rfl) rfl rfl rfl (by simp; omega) rfl rfl ?_
            refine S_nil ?_
            refine X_blk ?_
            refine X_seq ?_
            refine T_region ?_
            refine S_val rfl rfl (Y_addN rfl rfl (nat_cast _) (nat_lit' _) (by omega)) ?_
            refine S_val rfl rfl (Y_move rfl) ?_
            refine S_nil ?_
            refine X_loop ?_
            exact ⟨i + 1, by omega, by omega, (by repeat (first | exact Env.sub_nil _ | (apply Env.sub_cons; rfl))), [], by (try dsimp only); rw [← hset]; rfl⟩
          · obtain rfl : i = 32 := by omega
            generalize outs s3 32 = Z at *
            have hz : (byl Z).length = 32 := by rw [byl_length, hol]
            have hz0 : (List.replicate 32 (0 : Int)).length = 32 := List.length_replicate
            refine T_seq ?_
            refine T_region ?_
            refine S_val rfl rfl (Y_lss_f rfl rfl (by decide)) ?_
            refine S_nil ?_
            refine X_seq ?_
            refine T_seq ?_
            refine T_cond_false rfl ?_
            refine T_exit ?_
            refine X_seq_exit ?_
            refine X_loop_exit ?_
            refine X_blk_hit rfl ?_
            refine X_seq ?_
            refine T_seq ?_
            refine T_region ?_
            refine S_val rfl rfl (Y_loadAI 3 (und rfl) rfl rfl rfl (siz rfl) (by assumption)) ?_
            refine S_storeAI 0 (siz rfl) rfl rfl rfl rfl (by assumption) rfl ?_
            refine S_nil ?_
            refine X_seq ?_
            refine T_ret ?_
            ((first | refine X_fin_ret ?_ | refine X_fin ?_); exact ⟨[_], [], .cons (.agg 0 rfl (und rfl) rfl rfl (by rw [ints_size, hz]; exact siz rfl)) .nil, Emb.nil _, rfl, rfl⟩)
end Go.Proofs.YtchoncjikdfbgaaDoor
