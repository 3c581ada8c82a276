import Derived.Test.YtchoncjikdfbgaaDoorBits32
import Derived.Test.YtchoncjikdfbgaaDoorOpen
/- Package sha: down, numbers, block. -/
namespace Go.Proofs.YtchoncjikdfbgaaDoor
open Go.RowKit
set_option maxRecDepth 20000
set_option maxHeartbeats 40000000

/-- Turned down. -/
def ror (a : U32) (n : Nat) : U32 := (a <<< (32 - n)) ||| (a >>> (32 - (32 - n)))
theorem wrap_neg {n : Nat} (h : 0 < n ∧ n < 32) : IntKind.u64.wrap (0 - (n : Int)) = ((18446744073709551616 - n : Nat) : Int) := by
  have h1 : IntKind.u64.wrap (0 - (n : Int)) = (0 - (n : Int)) % 18446744073709551616 := rfl
  rw [h1]
  omega
theorem and31 {n : Nat} (h : 0 < n ∧ n < 32) : (18446744073709551616 - n) &&& 31 = 32 - n := by
  rw [show (31 : Nat) = 2 ^ 5 - 1 by decide, Nat.and_two_pow_sub_one_eq_mod]
  omega
theorem rotl_any (a : U32) (n : Nat) (h : 0 < n ∧ n < 32) (w : World) : Fn Tryd.prog 73 #[.int .u32 (a.toNat : Nat), .int .i64 (0 - (n : Int))] w fun v N => v = .int .u32 ((ror a n).toNat : Nat) ∧ N = [] := by
  have h1 := wrap_neg h
  have h2 := and31 h
  refine Fn_of (args := [.int .u32 (a.toNat : Nat), .int .i64 (0 - (n : Int))]) Tryd.func73 rfl Tryd.ntmps73 Tryd.results73 (by simp) ?_
  refine T_seq ?_
  refine T_region ?_
  refine S_val rfl rfl (Y_assign rfl) ?_
  refine S_nil ?_
  refine X_seq ?_
  refine T_seq ?_
  refine T_region ?_
  refine S_val rfl rfl (Y_move rfl) ?_
  refine S_val rfl rfl (Y_conv (und rfl) (und rfl) rfl (by assumption)) ?_
  refine S_val rfl rfl (Y_andV rfl rfl (nat_cast _) (nat_lit' _) rfl (by simp only [IntKind.bits]; omega) (by simp only [IntKind.bits]; omega) (by assumption)) ?_
  refine S_val rfl rfl (Y_assign rfl) ?_
  refine S_nil ?_
  refine X_seq ?_
  refine T_seq ?_
  refine T_region ?_
  refine S_val rfl rfl (Y_move rfl) ?_
  refine S_val rfl rfl (Y_move rfl) ?_
  refine S_val rfl rfl (Y_bshl rfl rfl (nat_cast _)) ?_
  refine S_val rfl rfl (Y_move rfl) ?_
  refine S_val rfl rfl (Y_move rfl) ?_
  refine S_val rfl rfl (Y_subU rfl rfl (nat_lit' _) (nat_cast _) rfl (by omega) (by simp only [IntKind.bits]; omega)) ?_
  refine S_val rfl rfl (Y_bshr rfl rfl (nat_cast _)) ?_
  refine S_val rfl rfl (Y_bor rfl rfl) ?_
  refine S_val rfl rfl (Y_assign rfl) ?_
  refine S_nil ?_
  refine X_seq ?_
  refine T_ret ?_
  ((first | refine X_fin_ret ?_ | refine X_fin ?_); exact ⟨[_], [], .cons (.tmp rfl) .nil, Emb.nil _, rfl, rfl⟩)
theorem sdown_any (a : U32) (n : Nat) (h : 0 < n ∧ n < 32) (w : World) : Fn Tryd.prog 56 #[.int .u32 (a.toNat : Nat), .int .i64 (n : Nat)] w fun v N => v = .int .u32 ((ror a n).toNat : Nat) ∧ N = [] := by
  refine Fn_of (args := [.int .u32 (a.toNat : Nat), .int .i64 (n : Nat)]) Tryd.func56 rfl Tryd.ntmps56 Tryd.results56 (by simp) ?_
  refine T_seq ?_
  refine T_region ?_
  refine S_val rfl rfl (Y_assign rfl) ?_
  refine S_nil ?_
  refine X_seq ?_
  refine T_seq ?_
  refine T_region ?_
  refine S_val rfl rfl (Y_move rfl) ?_
  refine S_val rfl rfl (Y_move rfl) ?_
  refine S_val rfl rfl (Y_neg rfl (wi64 (by omega) (by omega))) ?_
  refine S_callV rfl rfl (bod rfl) (fun w hs => rotl_any a n h _) rfl rfl ?_
  refine S_val rfl rfl (Y_assign rfl) ?_
  refine S_nil ?_
  refine X_seq ?_
  refine T_ret ?_
  ((first | refine X_fin_ret ?_ | refine X_fin ?_); exact ⟨[_], [], .cons (.tmp rfl) .nil, Emb.nil _, rfl, rfl⟩)
def w0 (l : List U32) (i : Nat) : U32 := l[i]?.getD 0
theorem w0_of {l : List U32} {i : Nat} {a : U32} (h : l[i]? = some a) : w0 l i = a := by unfold w0; rw [h]; rfl
theorem bvl_w0 {l : List U32} {i n : Nat} (hl : l.length = n) (h : i < n) : (bvl l)[i]? = some (((w0 l i).toNat : Nat) : Int) := by
  obtain ⟨a, e⟩ := some_get hl h
  rw [w0_of e]
  exact bvl_get e
/-- The numbers after so many bytes. -/
def wA (bs : List U8) : Nat → List U32
  | 0 => List.replicate 64 0
  | i + 1 => (wA bs i).set (i / 4) (((w0 (wA bs i) (i / 4)) <<< 8) ||| ((bs[i]?.getD 0).setWidth 32))
def sg0 (x : U32) : U32 := ror x 7 ^^^ ror x 18 ^^^ x >>> 3
def sg1 (x : U32) : U32 := ror x 17 ^^^ ror x 19 ^^^ x >>> 10
/-- .. after so many more numbers. -/
def wB (bs : List U8) : Nat → List U32
  | 0 => wA bs 64
  | i + 1 => (wB bs i).set (i + 16) (w0 (wB bs i) i + w0 (wB bs i) (i + 9) + sg0 (w0 (wB bs i) (i + 1)) + sg1 (w0 (wB bs i) (i + 14)))
@[simp] theorem wA_length (bs : List U8) : ∀ i, (wA bs i).length = 64
  | 0 => by simp [wA]
  | i + 1 => by unfold wA; rw [List.length_set, wA_length bs i]
@[simp] theorem wB_length (bs : List U8) : ∀ i, (wB bs i).length = 64
  | 0 => wA_length bs 64
  | i + 1 => by unfold wB; rw [List.length_set, wB_length bs i]
theorem wA_zero (bs : List U8) : wA bs 0 = List.replicate 64 0 := by rw [wA]
theorem wA_succ (bs : List U8) (i : Nat) : wA bs (i + 1) = (wA bs i).set (i / 4) (((w0 (wA bs i) (i / 4)) <<< 8) ||| ((bs[i]?.getD 0).setWidth 32)) := by rw [wA]
theorem wB_zero (bs : List U8) : wB bs 0 = wA bs 64 := by rw [wB]
theorem wB_succ (bs : List U8) (i : Nat) : wB bs (i + 1) = (wB bs i).set (i + 16) (w0 (wB bs i) i + w0 (wB bs i) (i + 9) + sg0 (w0 (wB bs i) (i + 1)) + sg1 (w0 (wB bs i) (i + 14))) := by rw [wB]
attribute [irreducible] wA wB
def wAll (bs : List U8) : List U32 := wB bs 48
theorem bvl_zero (n : Nat) : bvl (List.replicate n 0) = List.replicate n 0 := by unfold bvl; rw [List.map_replicate]; rfl
theorem numbers_any (bs : List U8) (hb : bs.length = 64) (v : Value) (w : World) (hr : Rd w v .u8 (byl bs)) : Fn Tryd.prog 55 #[v] w fun u N => u = .agg (ints .u32 (bvl (wAll bs))) ∧ N = [] := by
  have hbl : (byl bs).length = 64 := by rw [byl_length, hb]
  unfold wAll
  refine Fn_of (args := [v]) Tryd.func55 rfl Tryd.ntmps55 Tryd.results55 (by simp) ?_
  refine T_seq ?_
  refine T_region ?_
  refine S_allocA (zer rfl) rfl rfl fun _ => ?_
  refine S_nil ?_
  refine X_seq ?_
  refine T_seq ?_
  refine T_region ?_
  refine S_allocA (zer rfl) rfl rfl fun _ => ?_
  refine S_nil ?_
  refine X_seq ?_
  refine T_seq ?_
  refine T_seq ?_
  refine T_region ?_
  refine S_val rfl rfl (Y_move rfl) ?_
  refine S_val rfl rfl (Y_lenV rfl (und rfl) rfl (fun _ hs => Rd.st (by assumption) hs) (by assumption)) ?_
  refine S_val rfl rfl (Y_move rfl) ?_
  refine S_nil ?_
  refine X_seq ?_
  refine T_block ?_
  rename_i b1 b2
  refine T_loop (α := Nat) (fun i => i ≤ 64)
    (fun i => [(0, v), (2, .pointer (some ⟨b1, 0, none⟩)), (3, .pointer (some ⟨b2, 0, none⟩)), (9, v), (10, .int .i64 (64 : Nat)), (11, .int .i64 i)])
    (fun i => [blk b1 (.cells (ints .u32 (List.replicate 64 0)) 72 (0, 0)), blk b2 (.cells (ints .u32 (bvl (wA bs i))) 72 (0, 0))])
    (fun i => 64 - i) 0 (by omega) (by repeat (first | exact Env.sub_nil _ | (apply Env.sub_cons; rfl))) [] (by rw [wA_zero, bvl_zero]; rfl) ?_
  intro i hi
  by_cases h : i < 64
  · have hq := bvl_w0 (wA_length bs i) (show i / 4 < 64 by omega)
    obtain ⟨c, hc⟩ := some_get hb h
    have hn : (bvl (wA bs i)).set (i / 4) (((((w0 (wA bs i) (i / 4)) <<< 8) ||| (c.setWidth 32)).toNat : Nat) : Int) = bvl (wA bs (i + 1)) := by
      rw [bvl_set, wA_succ, hc]
      rfl
    have hwl := wA_length bs i
    generalize w0 (wA bs i) (i / 4) = z at *
    generalize wA bs i = l at *
    refine T_seq ?_
    refine T_region ?_
    refine S_val rfl rfl (Y_lss_t rfl rfl (by omega)) ?_
    refine S_nil ?_
    refine X_seq ?_
    refine T_seq ?_
    refine T_cond_true rfl ?_
    refine T_skip ?_
    refine X_seq ?_
    refine T_seq ?_
    refine T_block ?_
    refine T_seq ?_
    refine T_region ?_
    refine S_val rfl rfl (Y_move rfl) ?_
    refine S_val rfl rfl (Y_ixV (und rfl) (siz rfl) rfl rfl (fun _ hs => Rd.st (by assumption) hs) (nat_cast _) (by simp; omega)) ?_
    refine S_val rfl rfl (Y_loadV (und rfl) rfl rfl (fun _ hs => Rd.st (by assumption) hs) (byl_get (by assumption))) ?_
    refine S_val rfl rfl (Y_assign rfl) ?_
    refine S_val rfl rfl (Y_assign rfl) ?_
    refine S_nil ?_
    refine X_seq ?_
    refine T_region ?_
    refine S_val rfl rfl (Y_move rfl) ?_
    refine S_val rfl rfl (Y_quoN rfl rfl (nat_cast _) (nat_lit' _) (Nat.succ_ne_zero _) (by first | with_reducible exact xi64 (by omega) | with_reducible exact x64 (by omega) | with_reducible exact x8 (by omega) | with_reducible exact x32 (by omega))) ?_
    refine S_val rfl rfl (Y_move rfl) ?_
    refine S_val rfl rfl (Y_quoN rfl rfl (nat_cast _) (nat_lit' _) (Nat.succ_ne_zero _) (by first | with_reducible exact xi64 (by omega) | with_reducible exact x64 (by omega) | with_reducible exact x8 (by omega) | with_reducible exact x32 (by omega))) ?_
    refine S_val rfl rfl (Y_ixa (und rfl) (siz rfl) rfl rfl (nat_cast _) (by omega)) ?_
    refine S_val rfl rfl (Y_loadI 1 (und rfl) rfl rfl rfl (by assumption)) ?_
    refine S_val rfl rfl (Y_bshl rfl rfl (nat_lit' _)) ?_
    refine S_val rfl rfl (Y_move rfl) ?_
    refine S_val rfl rfl (Y_bconv (und rfl) (und rfl) rfl) ?_
    refine S_val rfl rfl (Y_bor rfl rfl) ?_
    refine S_val rfl rfl (Y_ixa (und rfl) (siz rfl) rfl rfl (nat_cast _) (by omega)) ?_
    refine S_storeI 1 (siz rfl) rfl rfl rfl (by simp; omega) rfl rfl ?_
    refine S_nil ?_
    refine X_blk ?_
    refine X_seq ?_
    refine T_region ?_
    refine S_val rfl rfl (Y_addN rfl rfl (nat_cast _) (nat_lit' _) (by omega)) ?_
    refine S_val rfl rfl (Y_move rfl) ?_
    refine S_nil ?_
    refine X_loop ?_
    exact ⟨i + 1, by omega, by omega, (by repeat (first | exact Env.sub_nil _ | (apply Env.sub_cons; rfl))), [], by rw [← hn]; rfl⟩
  · obtain rfl : i = 64 := by omega
    refine T_seq ?_
    refine T_region ?_
    refine S_val rfl rfl (Y_lss_f rfl rfl (by decide)) ?_
    refine S_nil ?_
    refine X_seq ?_
    refine T_seq ?_
    refine T_cond_false rfl ?_
    refine T_exit ?_
    refine X_seq_exit ?_
    refine X_loop_exit ?_
    refine X_blk_hit rfl ?_
    refine X_seq ?_
    refine T_seq ?_
    refine T_seq ?_
    refine T_region ?_
    refine S_val rfl rfl (Y_assign rfl) ?_
    refine S_nil ?_
    refine X_seq ?_
    refine T_block ?_
    refine T_loop (α := Nat) (fun i => i ≤ 48)
      (fun i => [(2, .pointer (some ⟨b1, 0, none⟩)), (3, .pointer (some ⟨b2, 0, none⟩)), (6, .int .i64 (i + 16 : Nat))])
      (fun i => [blk b1 (.cells (ints .u32 (List.replicate 64 0)) 72 (0, 0)), blk b2 (.cells (ints .u32 (bvl (wB bs i))) 72 (0, 0))])
      (fun i => 48 - i) 0 (by omega) (by repeat (first | exact Env.sub_nil _ | (apply Env.sub_cons; rfl))) [] (by rw [wB_zero]; rfl) ?_
    intro i hi
    have hwl := wB_length bs i
    by_cases h : i < 48
    · have q0 := bvl_w0 hwl (show i < 64 by omega)
      have q1 := bvl_w0 hwl (show i + 1 < 64 by omega)
      have q9 := bvl_w0 hwl (show i + 9 < 64 by omega)
      have q14 := bvl_w0 hwl (show i + 14 < 64 by omega)
      have hn : (bvl (wB bs i)).set (i + 16) (((w0 (wB bs i) i + w0 (wB bs i) (i + 9) + (ror (w0 (wB bs i) (i + 1)) 7 ^^^ ror (w0 (wB bs i) (i + 1)) 18 ^^^ (w0 (wB bs i) (i + 1)) >>> 3) + (ror (w0 (wB bs i) (i + 14)) 17 ^^^ ror (w0 (wB bs i) (i + 14)) 19 ^^^ (w0 (wB bs i) (i + 14)) >>> 10)).toNat : Nat) : Int) = bvl (wB bs (i + 1)) := by
        rw [bvl_set, wB_succ]
        rfl
      generalize w0 (wB bs i) i = z0 at *
      generalize w0 (wB bs i) (i + 1) = z1 at *
      generalize w0 (wB bs i) (i + 9) = z9 at *
      generalize w0 (wB bs i) (i + 14) = z14 at *
      generalize wB bs i = l at *
      have p0 : (bvl l)[i + 16 - 16]? = some ((z0.toNat : Nat) : Int) := by rw [show i + 16 - 16 = i by omega]; exact q0
      have p1 : (bvl l)[i + 16 - 15]? = some ((z1.toNat : Nat) : Int) := by rw [show i + 16 - 15 = i + 1 by omega]; exact q1
      have p9 : (bvl l)[i + 16 - 7]? = some ((z9.toNat : Nat) : Int) := by rw [show i + 16 - 7 = i + 9 by omega]; exact q9
      have p14 : (bvl l)[i + 16 - 2]? = some ((z14.toNat : Nat) : Int) := by rw [show i + 16 - 2 = i + 14 by omega]; exact q14
      clear q0 q1 q9 q14
      refine T_seq ?_
      refine T_seq ?_
      refine T_region ?_
      refine S_val rfl rfl (Y_move rfl) ?_
      refine S_val rfl rfl (Y_lss_t rfl rfl (by omega)) ?_
      refine S_nil ?_
      refine X_seq ?_
      refine T_cond_true rfl ?_
      refine T_skip ?_
      refine X_seq ?_
      refine T_seq ?_
      refine T_block ?_
      refine T_seq ?_
      refine T_draw (by kernel_rfl) (by kernel_rfl) rfl ?_
      refine D0_val rfl rfl rfl (Y_move rfl) ?_
      refine D0_val rfl rfl rfl (Y_subN rfl rfl (nat_cast _) (nat_lit' _) (Nat.le_of_ble_eq_true rfl) (by omega)) ?_
      refine D0_val rfl rfl rfl (Y_ixa (und rfl) (siz rfl) rfl rfl (nat_cast _) (by omega)) ?_
      refine D0_valM rfl rfl rfl (Y_loadI 1 (und rfl) rfl rfl rfl (by assumption)) ?_
      refine D0_val rfl rfl rfl (Y_move rfl) ?_
      refine D0_val rfl rfl rfl (Y_subN rfl rfl (nat_cast _) (nat_lit' _) (Nat.le_of_ble_eq_true rfl) (by omega)) ?_
      refine D0_val rfl rfl rfl (Y_ixa (und rfl) (siz rfl) rfl rfl (nat_cast _) (by omega)) ?_
      refine D0_valM rfl rfl rfl (Y_loadI 1 (und rfl) rfl rfl rfl (by assumption)) ?_
      refine D0_val rfl rfl rfl (Y_assign rfl) ?_
      refine D0_val rfl rfl rfl (Y_assign rfl) ?_
      refine D0_nil ?_
      refine X_seq ?_
      refine T_draw (by kernel_rfl) (by kernel_rfl) rfl ?_
      refine D0_val rfl rfl rfl (Y_move rfl) ?_
      refine D0_val rfl rfl rfl (Y_move rfl) ?_
      refine D0_val rfl rfl rfl (Y_subN rfl rfl (nat_cast _) (nat_lit' _) (Nat.le_of_ble_eq_true rfl) (by omega)) ?_
      refine D0_val rfl rfl rfl (Y_ixa (und rfl) (siz rfl) rfl rfl (nat_cast _) (by omega)) ?_
      refine D0_valM rfl rfl rfl (Y_loadI 1 (und rfl) rfl rfl rfl (by assumption)) ?_
      refine D0_val rfl rfl rfl (Y_move rfl) ?_
      refine D0_val rfl rfl rfl (Y_subN rfl rfl (nat_cast _) (nat_lit' _) (Nat.le_of_ble_eq_true rfl) (by omega)) ?_
      refine D0_val rfl rfl rfl (Y_ixa (und rfl) (siz rfl) rfl rfl (nat_cast _) (by omega)) ?_
      refine D0_valM rfl rfl rfl (Y_loadI 1 (und rfl) rfl rfl rfl (by assumption)) ?_
      refine D0_val rfl rfl rfl (Y_badd rfl rfl) ?_
      refine D0_val rfl rfl rfl (Y_move rfl) ?_
      refine D0_callV rfl rfl (bod rfl) (fun w hs => sdown_any z1 7 (by omega) _) rfl rfl ?_
      refine D0_val rfl rfl rfl (Y_move rfl) ?_
      refine D0_callV rfl rfl (bod rfl) (fun w hs => sdown_any z1 18 (by omega) _) rfl rfl ?_
      refine D0_val rfl rfl rfl (Y_bxor rfl rfl) ?_
      refine D0_val rfl rfl rfl (Y_move rfl) ?_
      refine D0_val rfl rfl rfl (Y_bshr rfl rfl (nat_lit' _)) ?_
      refine D0_val rfl rfl rfl (Y_bxor rfl rfl) ?_
      refine D0_val rfl rfl rfl (Y_badd rfl rfl) ?_
      refine D0_val rfl rfl rfl (Y_move rfl) ?_
      refine D0_callV rfl rfl (bod rfl) (fun w hs => sdown_any z14 17 (by omega) _) rfl rfl ?_
      refine D0_val rfl rfl rfl (Y_move rfl) ?_
      refine D0_callV rfl rfl (bod rfl) (fun w hs => sdown_any z14 19 (by omega) _) rfl rfl ?_
      refine D0_val rfl rfl rfl (Y_bxor rfl rfl) ?_
      refine D0_val rfl rfl rfl (Y_move rfl) ?_
      refine D0_val rfl rfl rfl (Y_bshr rfl rfl (nat_lit' _)) ?_
      refine D0_val rfl rfl rfl (Y_bxor rfl rfl) ?_
      refine D0_val rfl rfl rfl (Y_badd rfl rfl) ?_
      refine D0_val rfl rfl rfl (Y_ixa (und rfl) (siz rfl) rfl rfl (nat_cast _) (by omega)) ?_
      refine D0_storeI 1 (by kernel_rfl) (siz rfl) rfl rfl rfl (by simp; omega) rfl rfl ?_
      refine D0_nil ?_
      refine X_blk ?_
      refine X_seq ?_
      refine T_region ?_
      refine S_val rfl rfl (Y_move rfl) ?_
      refine S_val rfl rfl (Y_addN rfl rfl (nat_cast _) (nat_lit' _) (by omega)) ?_
      refine S_val rfl rfl (Y_assign rfl) ?_
      refine S_nil ?_
      refine X_loop ?_
      exact ⟨i + 1, by omega, by omega, (by repeat (first | exact Env.sub_nil _ | (apply Env.sub_cons; rfl))), [], by rw [← hn]; rfl⟩
    · obtain rfl : i = 48 := by omega
      generalize wB bs 48 = l at *
      have hl2 : (bvl l).length = 64 := by rw [bvl_length, hwl]
      have hl0 : (List.replicate 64 (0 : Int)).length = 64 := List.length_replicate
      refine T_seq ?_
      refine T_seq ?_
      refine T_region ?_
      refine S_val rfl rfl (Y_move rfl) ?_
      refine S_val rfl rfl (Y_lss_f rfl rfl (by decide)) ?_
      refine S_nil ?_
      refine X_seq ?_
      refine T_cond_false rfl ?_
      refine T_exit ?_
      refine X_seq_exit ?_
      refine X_loop_exit ?_
      refine X_blk_hit rfl ?_
      refine X_seq ?_
      refine T_seq ?_
      refine T_region ?_
      refine S_val rfl rfl (Y_loadAI 1 (und rfl) rfl rfl rfl (siz rfl) (by assumption)) ?_
      refine S_storeAI 0 (siz rfl) rfl rfl rfl rfl (by assumption) rfl ?_
      refine S_nil ?_
      refine X_seq ?_
      refine T_ret ?_
      ((first | refine X_fin_ret ?_ | refine X_fin ?_); exact ⟨[_], [], .cons (.agg 0 rfl (und rfl) rfl rfl (by rw [ints_size, hl2]; exact siz rfl)) .nil, Emb.nil _, rfl, rfl⟩)
end Go.Proofs.YtchoncjikdfbgaaDoor
