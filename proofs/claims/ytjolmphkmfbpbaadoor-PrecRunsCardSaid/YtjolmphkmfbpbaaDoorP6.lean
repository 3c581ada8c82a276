import Derived.Test.YtjolmphkmfbpbaaDoorP0
import Derived.Test.YtjolmphkmfbpbaaDoorP1
import Derived.Test.YtjolmphkmfbpbaaDoorP2
import Derived.Test.YtjolmphkmfbpbaaDoorP3
import Derived.Test.YtjolmphkmfbpbaaDoorP4
import Derived.Test.YtjolmphkmfbpbaaDoorP5
/- The reference of layer 16: hash, power, Run. -/
namespace Go.Proofs.YtjolmphkmfbpbaaDoor
open Go.RowKit
set_option maxRecDepth 20000
set_option maxHeartbeats 40000000
theorem Rd.ownAll {C : Ctx} {L : Hp} {w : World} (hs : St C L w) {q b n : Nat} {k : IntKind} {l : List Int} {e : TypeId} {fz : Nat × Nat} (hq : L[q]? = some (blk b (.cells (ints k l) e fz))) (hn : l.length = n) : Rd w (.slice (some ⟨b, 0, none⟩) n n) k l := by
  subst hn
  exact Rd.own hs hq (fun i p hp => by rwa [Nat.zero_add]) (Nat.le_refl _)
theorem hash16_any (bs : List U8) (hb : bs.length ≤ 1000000) (v : Value) (w : World) (hr : Rd w v .u8 (byl bs)) : Fn Tryd.prog 15 #[v] w fun u N => N = [row .u8 (byl (sumF KL bs)) u] := by
  have co := constants06_any
  have hK : KL.length = 64 := rfl
  have hH : H0.length = 8 := rfl
  have sm := fun w hr => rsum06_any KL H0 bs hK hH hb v w hr
  rw [sumR_sumF] at sm
  have hz : (sumF KL bs).length = 32 := outs_length _ _
  generalize sumF KL bs = Z at *
  generalize KL = K at *
  generalize H0 = h0 at *
  have hzl : (byl Z).length = 32 := by rw [byl_length, hz]
  have hk1 : (bvl K).length = 64 := by rw [bvl_length, hK]
  have hk2 : (bvl h0).length = 8 := by rw [bvl_length, hH]
  have hk3 : (List.replicate 64 (0 : Int)).length = 64 := List.length_replicate
  have hk4 : (List.replicate 8 (0 : Int)).length = 8 := List.length_replicate
  have hk5 : (List.replicate 32 (0 : Int)).length = 32 := List.length_replicate
  refine Fn_of (args := [v]) Tryd.func15 rfl Tryd.ntmps15 Tryd.results15 (by simp) ?_
  refine T_sr ?_
  refine S_as rfl rfl rfl ?_
  refine S_nx ?_
  refine T_sr ?_
  refine S_callV rfl rfl (bod rfl) (fun w hs => co _) rfl rfl ?_
  refine S_mv rfl rfl rfl ?_
  refine S_val rfl rfl (Y_extract rfl rfl) ?_
  refine S_val rfl rfl (Y_extract rfl rfl) ?_
  refine S_allocA (zer rfl) rfl rfl fun _ => ?_
  refine S_allocA (zer rfl) rfl rfl fun _ => ?_
  refine S_storeAI 0 (siz rfl) rfl rfl rfl rfl (by assumption) rfl ?_
  refine S_storeAI 1 (siz rfl) rfl rfl rfl rfl (by assumption) rfl ?_
  refine S_nx ?_
  refine T_sr ?_
  refine S_mv rfl rfl rfl ?_
  refine S_val rfl rfl (Y_loadAI 0 (und rfl) rfl rfl rfl (siz rfl) (by assumption)) ?_
  refine S_val rfl rfl (Y_loadAI 1 (und rfl) rfl rfl rfl (siz rfl) (by assumption)) ?_
  refine S_callV rfl rfl (bod rfl) (fun w hs => sm _ (by first | exact hs.rowRd 0 rfl | exact hs.rowRd 1 rfl | exact hs.rowRd 2 rfl | exact hs.rowRd 3 rfl | exact hs.rowRd 4 rfl | exact hs.rowRd 5 rfl | exact hs.rowRd 6 rfl | exact hs.rowRd 7 rfl | exact hs.rowRd 8 rfl | exact hs.rowRd 9 rfl | exact hs.rowRd 10 rfl | exact hs.rowRd 11 rfl | exact hs.rowRd 12 rfl | exact hs.rowRd 13 rfl | exact Rd.st (by assumption) hs)) rfl rfl ?_
  refine S_allocA (zer rfl) rfl rfl fun _ => ?_
  refine S_storeAI 2 (siz rfl) rfl rfl rfl rfl (by assumption) rfl ?_
  refine S_nx ?_
  refine T_sr ?_
  refine S_sliceR (und rfl) (siz rfl) (zer rfl) rfl rfl rfl rfl fun _ => ?_
  refine S_as rfl rfl rfl ?_
  refine S_nx ?_
  refine T_sr ?_
  refine S_mv rfl rfl rfl ?_
  refine S_val rfl rfl (Y_sliceArr (und rfl) (siz rfl) rfl) ?_
  rename_i b0 b1 b2 v0
  refine S_append 3 rfl (und rfl) (und rfl) (siz rfl) (byt rfl) (zer rfl) rfl rfl rfl (fun _ hs => Rd.ownAll hs (q := 2) rfl hzl) (by rw [hzl]; exact Nat.le_of_ble_eq_true rfl) rfl rfl rfl fun _ => ?_
  refine S_as rfl rfl rfl ?_
  refine S_nx ?_
  refine T_sr ?_
  refine S_mv rfl rfl rfl ?_
  refine S_as rfl rfl rfl ?_
  refine S_nx ?_
  refine T_ret ?_
  ((first | refine X_fin_ret ?_ | refine X_fin ?_); exact ⟨[_], [_], .cons (.tmp rfl) .nil, Emb.one 3 rfl, rfl⟩)
theorem power16_nil (n x : Nat) (hx : x < 256 ^ n) (hn : n ≤ 1000000) (v : Value) (w : World) (hr : Rd w v .u8 (bel n x)) (h : lenN n x 0 = 0 ∧ lenN n x 2 = 0) : Fn Tryd.prog 16 #[v] w fun r N => ∃ u, r = .tuple #[u, .bool true] ∧ N = [row .u8 [] u] := by
  have l0 := fun w h => rlength_any n x 0 hx hn (by omega) v w h
  have l1 := fun w h => rlength_any n x 1 hx hn (by omega) v w h
  have l2 := fun w h => rlength_any n x 2 hx hn (by omega) v w h
  rw [h.1, if_pos (by omega), decide_eq_true (by omega)] at l0
  rw [h.2, if_pos (by omega), decide_eq_true (by omega)] at l2
  generalize decide (lenN n x 1 < 18446744073709551616) = q1 at *
  generalize (if lenN n x 1 < 18446744073709551616 then lenN n x 1 else 0) = z1 at *
  clear hx hn h
  refine Fn_of (args := [v]) Tryd.func16 rfl Tryd.ntmps16 Tryd.results16 (by simp) ?_
  refine T_sr ?_
  refine S_as rfl rfl rfl ?_
  refine S_as rfl rfl rfl ?_
  refine S_nx ?_
  refine T_sr ?_
  refine S_mv rfl rfl rfl ?_
  refine S_callV rfl rfl (bod rfl) (fun w hs => l0 _ (by first | exact hs.rowRd 0 rfl | exact hs.rowRd 1 rfl | exact hs.rowRd 2 rfl | exact hs.rowRd 3 rfl | exact hs.rowRd 4 rfl | exact hs.rowRd 5 rfl | exact hs.rowRd 6 rfl | exact hs.rowRd 7 rfl | exact hs.rowRd 8 rfl | exact hs.rowRd 9 rfl | exact hs.rowRd 10 rfl | exact hs.rowRd 11 rfl | exact hs.rowRd 12 rfl | exact hs.rowRd 13 rfl | exact Rd.st (by assumption) hs)) rfl rfl ?_
  refine S_mv rfl rfl rfl ?_
  refine S_val rfl rfl (Y_extract rfl rfl) ?_
  refine S_val rfl rfl (Y_extract rfl rfl) ?_
  refine S_as rfl rfl rfl ?_
  refine S_as rfl rfl rfl ?_
  refine S_nx ?_
  refine T_sr ?_
  refine S_mv rfl rfl rfl ?_
  refine S_callV rfl rfl (bod rfl) (fun w hs => l1 _ (by first | exact hs.rowRd 0 rfl | exact hs.rowRd 1 rfl | exact hs.rowRd 2 rfl | exact hs.rowRd 3 rfl | exact hs.rowRd 4 rfl | exact hs.rowRd 5 rfl | exact hs.rowRd 6 rfl | exact hs.rowRd 7 rfl | exact hs.rowRd 8 rfl | exact hs.rowRd 9 rfl | exact hs.rowRd 10 rfl | exact hs.rowRd 11 rfl | exact hs.rowRd 12 rfl | exact hs.rowRd 13 rfl | exact Rd.st (by assumption) hs)) rfl rfl ?_
  refine S_mv rfl rfl rfl ?_
  refine S_val rfl rfl (Y_extract rfl rfl) ?_
  refine S_val rfl rfl (Y_extract rfl rfl) ?_
  refine S_as rfl rfl rfl ?_
  refine S_as rfl rfl rfl ?_
  refine S_nx ?_
  refine T_sr ?_
  refine S_mv rfl rfl rfl ?_
  refine S_callV rfl rfl (bod rfl) (fun w hs => l2 _ (by first | exact hs.rowRd 0 rfl | exact hs.rowRd 1 rfl | exact hs.rowRd 2 rfl | exact hs.rowRd 3 rfl | exact hs.rowRd 4 rfl | exact hs.rowRd 5 rfl | exact hs.rowRd 6 rfl | exact hs.rowRd 7 rfl | exact hs.rowRd 8 rfl | exact hs.rowRd 9 rfl | exact hs.rowRd 10 rfl | exact hs.rowRd 11 rfl | exact hs.rowRd 12 rfl | exact hs.rowRd 13 rfl | exact Rd.st (by assumption) hs)) rfl rfl ?_
  refine S_mv rfl rfl rfl ?_
  refine S_val rfl rfl (Y_extract rfl rfl) ?_
  refine S_val rfl rfl (Y_extract rfl rfl) ?_
  refine S_as rfl rfl rfl ?_
  refine S_as rfl rfl rfl ?_
  refine S_nx ?_
  refine T_sr ?_
  refine S_sliceR (und rfl) (siz rfl) (zer rfl) rfl rfl rfl rfl fun _ => ?_
  refine S_as rfl rfl rfl ?_
  refine S_nx ?_
  refine T_seq ?_
  refine T_sr ?_
  refine S_mv rfl rfl rfl ?_
  refine S_mv rfl rfl rfl ?_
  refine S_mv rfl rfl rfl ?_
  refine S_val rfl rfl (Y_pick_t rfl rfl) ?_
  refine S_mv rfl rfl rfl ?_
  refine S_mv rfl rfl rfl ?_
  refine S_val rfl rfl (Y_eql_t rfl rfl (by decide)) ?_
  refine S_val rfl rfl (Y_pick_t rfl rfl) ?_
  refine S_mv rfl rfl rfl ?_
  refine S_mv rfl rfl rfl ?_
  refine S_val rfl rfl (Y_eql_t rfl rfl (by decide)) ?_
  refine S_val rfl rfl (Y_pick_t rfl rfl) ?_
  refine S_nx ?_
  refine T_cond_true rfl ?_
  refine T_sr ?_
  refine S_mv rfl rfl rfl ?_
  refine S_as rfl rfl rfl ?_
  refine S_as rfl rfl rfl ?_
  refine S_nx ?_
  refine T_ret ?_
  refine X_seq_ret ?_
  ((first | refine X_fin_ret ?_ | refine X_fin ?_); exact ⟨[_, _], [_], .cons (.tmp rfl) (.cons (.tmp rfl) .nil), Emb.one 0 rfl, ⟨_, rfl, rfl⟩⟩)
theorem power16_long (n x : Nat) (hx : x < 256 ^ n) (hn : n ≤ 1000000) (v : Value) (w : World) (hr : Rd w v .u8 (bel n x)) (h : ¬ (lenN n x 0 = 0 ∧ lenN n x 2 = 0)) (hl : 64 < lenN n x 0 ∨ 64 < lenN n x 1 ∨ 64 < lenN n x 2) : Fn Tryd.prog 16 #[v] w fun r N => ∃ u, r = .tuple #[u, .bool false] ∧ N = [row .u8 [] u] := by
  have l0 := fun w h => rlength_any n x 0 hx hn (by omega) v w h
  have l1 := fun w h => rlength_any n x 1 hx hn (by omega) v w h
  have l2 := fun w h => rlength_any n x 2 hx hn (by omega) v w h
  have hz : ∀ z : Nat, ∃ b : Bool, ∃ y : Nat, decide (z < 18446744073709551616) = b ∧ (if z < 18446744073709551616 then z else 0) = y ∧ (b = true → y = z) ∧ (b = false → 64 < z) ∧ y < 18446744073709551616 := fun z => by
    by_cases hz : z < 18446744073709551616
    · exact ⟨true, z, decide_eq_true hz, if_pos hz, fun _ => rfl, fun h => (by cases h), hz⟩
    · exact ⟨false, 0, decide_eq_false hz, if_neg hz, fun h => (by cases h), fun _ => (by omega), (by omega)⟩
  obtain ⟨b0, y0, e1, e2, e3, e4, e5⟩ := hz (lenN n x 0)
  rw [e1, e2] at l0
  obtain ⟨b1, y1, f1, f2, f3, f4, f5⟩ := hz (lenN n x 1)
  rw [f1, f2] at l1
  obtain ⟨b2, y2, g1, g2, g3, g4, g5⟩ := hz (lenN n x 2)
  rw [g1, g2] at l2
  clear e1 e2 f1 f2 g1 g2 hz hx hn
  generalize lenN n x 0 = z0 at *
  generalize lenN n x 1 = z1 at *
  generalize lenN n x 2 = z2 at *
  cases b0
  · clear e3 e4 f3 f4 g3 g4 h hl
    refine Fn_of (args := [v]) Tryd.func16 rfl Tryd.ntmps16 Tryd.results16 (by simp) ?_
    refine T_sr ?_
    refine S_as rfl rfl rfl ?_
    refine S_as rfl rfl rfl ?_
    refine S_nx ?_
    refine T_sr ?_
    refine S_mv rfl rfl rfl ?_
    refine S_callV rfl rfl (bod rfl) (fun w hs => l0 _ (by first | exact hs.rowRd 0 rfl | exact hs.rowRd 1 rfl | exact hs.rowRd 2 rfl | exact hs.rowRd 3 rfl | exact hs.rowRd 4 rfl | exact hs.rowRd 5 rfl | exact hs.rowRd 6 rfl | exact hs.rowRd 7 rfl | exact hs.rowRd 8 rfl | exact hs.rowRd 9 rfl | exact hs.rowRd 10 rfl | exact hs.rowRd 11 rfl | exact hs.rowRd 12 rfl | exact hs.rowRd 13 rfl | exact Rd.st (by assumption) hs)) rfl rfl ?_
    refine S_mv rfl rfl rfl ?_
    refine S_val rfl rfl (Y_extract rfl rfl) ?_
    refine S_val rfl rfl (Y_extract rfl rfl) ?_
    refine S_as rfl rfl rfl ?_
    refine S_as rfl rfl rfl ?_
    refine S_nx ?_
    refine T_sr ?_
    refine S_mv rfl rfl rfl ?_
    refine S_callV rfl rfl (bod rfl) (fun w hs => l1 _ (by first | exact hs.rowRd 0 rfl | exact hs.rowRd 1 rfl | exact hs.rowRd 2 rfl | exact hs.rowRd 3 rfl | exact hs.rowRd 4 rfl | exact hs.rowRd 5 rfl | exact hs.rowRd 6 rfl | exact hs.rowRd 7 rfl | exact hs.rowRd 8 rfl | exact hs.rowRd 9 rfl | exact hs.rowRd 10 rfl | exact hs.rowRd 11 rfl | exact hs.rowRd 12 rfl | exact hs.rowRd 13 rfl | exact Rd.st (by assumption) hs)) rfl rfl ?_
    refine S_mv rfl rfl rfl ?_
    refine S_val rfl rfl (Y_extract rfl rfl) ?_
    refine S_val rfl rfl (Y_extract rfl rfl) ?_
    refine S_as rfl rfl rfl ?_
    refine S_as rfl rfl rfl ?_
    refine S_nx ?_
    refine T_sr ?_
    refine S_mv rfl rfl rfl ?_
    refine S_callV rfl rfl (bod rfl) (fun w hs => l2 _ (by first | exact hs.rowRd 0 rfl | exact hs.rowRd 1 rfl | exact hs.rowRd 2 rfl | exact hs.rowRd 3 rfl | exact hs.rowRd 4 rfl | exact hs.rowRd 5 rfl | exact hs.rowRd 6 rfl | exact hs.rowRd 7 rfl | exact hs.rowRd 8 rfl | exact hs.rowRd 9 rfl | exact hs.rowRd 10 rfl | exact hs.rowRd 11 rfl | exact hs.rowRd 12 rfl | exact hs.rowRd 13 rfl | exact Rd.st (by assumption) hs)) rfl rfl ?_
    refine S_mv rfl rfl rfl ?_
    refine S_val rfl rfl (Y_extract rfl rfl) ?_
    refine S_val rfl rfl (Y_extract rfl rfl) ?_
    refine S_as rfl rfl rfl ?_
    refine S_as rfl rfl rfl ?_
    refine S_nx ?_
    refine T_sr ?_
    refine S_sliceR (und rfl) (siz rfl) (zer rfl) rfl rfl rfl rfl fun _ => ?_
    refine S_as rfl rfl rfl ?_
    refine S_nx ?_
    refine T_seq ?_
    refine T_sr ?_
    refine S_mv rfl rfl rfl ?_
    refine S_mv rfl rfl rfl ?_
    refine S_skip rfl rfl ?_
    refine S_val rfl rfl (Y_pick_f rfl rfl) ?_
    refine S_mv rfl rfl rfl ?_
    refine S_skip rfl rfl ?_
    refine S_skip rfl rfl ?_
    refine S_val rfl rfl (Y_pick_f rfl rfl) ?_
    refine S_mv rfl rfl rfl ?_
    refine S_skip rfl rfl ?_
    refine S_skip rfl rfl ?_
    refine S_val rfl rfl (Y_pick_f rfl rfl) ?_
    refine S_nx ?_
    refine T_cond_false rfl ?_
    refine T_skip ?_
    refine X_seq ?_
    refine T_seq ?_
    refine T_sr ?_
    refine S_mv rfl rfl rfl ?_
    refine S_val rfl rfl (Y_not rfl rfl) ?_
    refine S_mv rfl rfl rfl ?_
    refine S_skip rfl rfl ?_
    refine S_skip rfl rfl ?_
    refine S_val rfl rfl (Y_pick_t rfl rfl) ?_
    refine S_mv rfl rfl rfl ?_
    refine S_skip rfl rfl ?_
    refine S_skip rfl rfl ?_
    refine S_val rfl rfl (Y_pick_t rfl rfl) ?_
    refine S_mv rfl rfl rfl ?_
    refine S_skip rfl rfl ?_
    refine S_skip rfl rfl ?_
    refine S_val rfl rfl (Y_pick_t rfl rfl) ?_
    refine S_mv rfl rfl rfl ?_
    refine S_skip rfl rfl ?_
    refine S_skip rfl rfl ?_
    refine S_val rfl rfl (Y_pick_t rfl rfl) ?_
    refine S_mv rfl rfl rfl ?_
    refine S_skip rfl rfl ?_
    refine S_skip rfl rfl ?_
    refine S_val rfl rfl (Y_pick_t rfl rfl) ?_
    refine S_nx ?_
    refine T_cond_true rfl ?_
    refine T_sr ?_
    refine S_mv rfl rfl rfl ?_
    refine S_as rfl rfl rfl ?_
    refine S_as rfl rfl rfl ?_
    refine S_nx ?_
    refine T_ret ?_
    refine X_seq_ret ?_
    ((first | refine X_fin_ret ?_ | refine X_fin ?_); exact ⟨[_, _], [_], .cons (.tmp rfl) (.cons (.tmp rfl) .nil), Emb.one 0 rfl, ⟨_, rfl, rfl⟩⟩)
  · obtain rfl := e3 rfl
    cases b1
    · cases b2
      · clear e3 e4 f3 f4 g3 g4 h hl
        refine Fn_of (args := [v]) Tryd.func16 rfl Tryd.ntmps16 Tryd.results16 (by simp) ?_
        refine T_sr ?_
        refine S_as rfl rfl rfl ?_
        refine S_as rfl rfl rfl ?_
        refine S_nx ?_
        refine T_sr ?_
        refine S_mv rfl rfl rfl ?_
        refine S_callV rfl rfl (bod rfl) (fun w hs => l0 _ (by first | exact hs.rowRd 0 rfl | exact hs.rowRd 1 rfl | exact hs.rowRd 2 rfl | exact hs.rowRd 3 rfl | exact hs.rowRd 4 rfl | exact hs.rowRd 5 rfl | exact hs.rowRd 6 rfl | exact hs.rowRd 7 rfl | exact hs.rowRd 8 rfl | exact hs.rowRd 9 rfl | exact hs.rowRd 10 rfl | exact hs.rowRd 11 rfl | exact hs.rowRd 12 rfl | exact hs.rowRd 13 rfl | exact Rd.st (by assumption) hs)) rfl rfl ?_
        refine S_mv rfl rfl rfl ?_
        refine S_val rfl rfl (Y_extract rfl rfl) ?_
        refine S_val rfl rfl (Y_extract rfl rfl) ?_
        refine S_as rfl rfl rfl ?_
        refine S_as rfl rfl rfl ?_
        refine S_nx ?_
        refine T_sr ?_
        refine S_mv rfl rfl rfl ?_
        refine S_callV rfl rfl (bod rfl) (fun w hs => l1 _ (by first | exact hs.rowRd 0 rfl | exact hs.rowRd 1 rfl | exact hs.rowRd 2 rfl | exact hs.rowRd 3 rfl | exact hs.rowRd 4 rfl | exact hs.rowRd 5 rfl | exact hs.rowRd 6 rfl | exact hs.rowRd 7 rfl | exact hs.rowRd 8 rfl | exact hs.rowRd 9 rfl | exact hs.rowRd 10 rfl | exact hs.rowRd 11 rfl | exact hs.rowRd 12 rfl | exact hs.rowRd 13 rfl | exact Rd.st (by assumption) hs)) rfl rfl ?_
        refine S_mv rfl rfl rfl ?_
        refine S_val rfl rfl (Y_extract rfl rfl) ?_
        refine S_val rfl rfl (Y_extract rfl rfl) ?_
        refine S_as rfl rfl rfl ?_
        refine S_as rfl rfl rfl ?_
        refine S_nx ?_
        refine T_sr ?_
        refine S_mv rfl rfl rfl ?_
        refine S_callV rfl rfl (bod rfl) (fun w hs => l2 _ (by first | exact hs.rowRd 0 rfl | exact hs.rowRd 1 rfl | exact hs.rowRd 2 rfl | exact hs.rowRd 3 rfl | exact hs.rowRd 4 rfl | exact hs.rowRd 5 rfl | exact hs.rowRd 6 rfl | exact hs.rowRd 7 rfl | exact hs.rowRd 8 rfl | exact hs.rowRd 9 rfl | exact hs.rowRd 10 rfl | exact hs.rowRd 11 rfl | exact hs.rowRd 12 rfl | exact hs.rowRd 13 rfl | exact Rd.st (by assumption) hs)) rfl rfl ?_
        refine S_mv rfl rfl rfl ?_
        refine S_val rfl rfl (Y_extract rfl rfl) ?_
        refine S_val rfl rfl (Y_extract rfl rfl) ?_
        refine S_as rfl rfl rfl ?_
        refine S_as rfl rfl rfl ?_
        refine S_nx ?_
        refine T_sr ?_
        refine S_sliceR (und rfl) (siz rfl) (zer rfl) rfl rfl rfl rfl fun _ => ?_
        refine S_as rfl rfl rfl ?_
        refine S_nx ?_
        refine T_seq ?_
        refine T_sr ?_
        refine S_mv rfl rfl rfl ?_
        refine S_mv rfl rfl rfl ?_
        refine S_mv rfl rfl rfl ?_
        refine S_val rfl rfl (Y_pick_t rfl rfl) ?_
        refine S_mv rfl rfl rfl ?_
        refine S_skip rfl rfl ?_
        refine S_skip rfl rfl ?_
        refine S_val rfl rfl (Y_pick_f rfl rfl) ?_
        refine S_mv rfl rfl rfl ?_
        refine S_skip rfl rfl ?_
        refine S_skip rfl rfl ?_
        refine S_val rfl rfl (Y_pick_f rfl rfl) ?_
        refine S_nx ?_
        refine T_cond_false rfl ?_
        refine T_skip ?_
        refine X_seq ?_
        refine T_seq ?_
        refine T_sr ?_
        refine S_mv rfl rfl rfl ?_
        refine S_val rfl rfl (Y_not rfl rfl) ?_
        refine S_mv rfl rfl rfl ?_
        refine S_mv rfl rfl rfl ?_
        refine S_val rfl rfl (Y_not rfl rfl) ?_
        refine S_val rfl rfl (Y_pick_f rfl rfl) ?_
        refine S_mv rfl rfl rfl ?_
        refine S_skip rfl rfl ?_
        refine S_skip rfl rfl ?_
        refine S_val rfl rfl (Y_pick_t rfl rfl) ?_
        refine S_mv rfl rfl rfl ?_
        refine S_skip rfl rfl ?_
        refine S_skip rfl rfl ?_
        refine S_val rfl rfl (Y_pick_t rfl rfl) ?_
        refine S_mv rfl rfl rfl ?_
        refine S_skip rfl rfl ?_
        refine S_skip rfl rfl ?_
        refine S_val rfl rfl (Y_pick_t rfl rfl) ?_
        refine S_mv rfl rfl rfl ?_
        refine S_skip rfl rfl ?_
        refine S_skip rfl rfl ?_
        refine S_val rfl rfl (Y_pick_t rfl rfl) ?_
        refine S_nx ?_
        refine T_cond_true rfl ?_
        refine T_sr ?_
        refine S_mv rfl rfl rfl ?_
        refine S_as rfl rfl rfl ?_
        refine S_as rfl rfl rfl ?_
        refine S_nx ?_
        refine T_ret ?_
        refine X_seq_ret ?_
        ((first | refine X_fin_ret ?_ | refine X_fin ?_); exact ⟨[_, _], [_], .cons (.tmp rfl) (.cons (.tmp rfl) .nil), Emb.one 0 rfl, ⟨_, rfl, rfl⟩⟩)
      · obtain rfl := g3 rfl
        by_cases h0 : y0 = 0
        · subst h0
          have h2 : ¬ y2 = 0 := fun e => h ⟨rfl, e⟩
          clear e3 e4 f3 f4 g3 g4 h hl
          refine Fn_of (args := [v]) Tryd.func16 rfl Tryd.ntmps16 Tryd.results16 (by simp) ?_
          refine T_sr ?_
          refine S_as rfl rfl rfl ?_
          refine S_as rfl rfl rfl ?_
          refine S_nx ?_
          refine T_sr ?_
          refine S_mv rfl rfl rfl ?_
          refine S_callV rfl rfl (bod rfl) (fun w hs => l0 _ (by first | exact hs.rowRd 0 rfl | exact hs.rowRd 1 rfl | exact hs.rowRd 2 rfl | exact hs.rowRd 3 rfl | exact hs.rowRd 4 rfl | exact hs.rowRd 5 rfl | exact hs.rowRd 6 rfl | exact hs.rowRd 7 rfl | exact hs.rowRd 8 rfl | exact hs.rowRd 9 rfl | exact hs.rowRd 10 rfl | exact hs.rowRd 11 rfl | exact hs.rowRd 12 rfl | exact hs.rowRd 13 rfl | exact Rd.st (by assumption) hs)) rfl rfl ?_
          refine S_mv rfl rfl rfl ?_
          refine S_val rfl rfl (Y_extract rfl rfl) ?_
          refine S_val rfl rfl (Y_extract rfl rfl) ?_
          refine S_as rfl rfl rfl ?_
          refine S_as rfl rfl rfl ?_
          refine S_nx ?_
          refine T_sr ?_
          refine S_mv rfl rfl rfl ?_
          refine S_callV rfl rfl (bod rfl) (fun w hs => l1 _ (by first | exact hs.rowRd 0 rfl | exact hs.rowRd 1 rfl | exact hs.rowRd 2 rfl | exact hs.rowRd 3 rfl | exact hs.rowRd 4 rfl | exact hs.rowRd 5 rfl | exact hs.rowRd 6 rfl | exact hs.rowRd 7 rfl | exact hs.rowRd 8 rfl | exact hs.rowRd 9 rfl | exact hs.rowRd 10 rfl | exact hs.rowRd 11 rfl | exact hs.rowRd 12 rfl | exact hs.rowRd 13 rfl | exact Rd.st (by assumption) hs)) rfl rfl ?_
          refine S_mv rfl rfl rfl ?_
          refine S_val rfl rfl (Y_extract rfl rfl) ?_
          refine S_val rfl rfl (Y_extract rfl rfl) ?_
          refine S_as rfl rfl rfl ?_
          refine S_as rfl rfl rfl ?_
          refine S_nx ?_
          refine T_sr ?_
          refine S_mv rfl rfl rfl ?_
          refine S_callV rfl rfl (bod rfl) (fun w hs => l2 _ (by first | exact hs.rowRd 0 rfl | exact hs.rowRd 1 rfl | exact hs.rowRd 2 rfl | exact hs.rowRd 3 rfl | exact hs.rowRd 4 rfl | exact hs.rowRd 5 rfl | exact hs.rowRd 6 rfl | exact hs.rowRd 7 rfl | exact hs.rowRd 8 rfl | exact hs.rowRd 9 rfl | exact hs.rowRd 10 rfl | exact hs.rowRd 11 rfl | exact hs.rowRd 12 rfl | exact hs.rowRd 13 rfl | exact Rd.st (by assumption) hs)) rfl rfl ?_
          refine S_mv rfl rfl rfl ?_
          refine S_val rfl rfl (Y_extract rfl rfl) ?_
          refine S_val rfl rfl (Y_extract rfl rfl) ?_
          refine S_as rfl rfl rfl ?_
          refine S_as rfl rfl rfl ?_
          refine S_nx ?_
          refine T_sr ?_
          refine S_sliceR (und rfl) (siz rfl) (zer rfl) rfl rfl rfl rfl fun _ => ?_
          refine S_as rfl rfl rfl ?_
          refine S_nx ?_
          refine T_seq ?_
          refine T_sr ?_
          refine S_mv rfl rfl rfl ?_
          refine S_mv rfl rfl rfl ?_
          refine S_mv rfl rfl rfl ?_
          refine S_val rfl rfl (Y_pick_t rfl rfl) ?_
          refine S_mv rfl rfl rfl ?_
          refine S_mv rfl rfl rfl ?_
          refine S_val rfl rfl (Y_eql_t rfl rfl (by decide)) ?_
          refine S_val rfl rfl (Y_pick_t rfl rfl) ?_
          refine S_mv rfl rfl rfl ?_
          refine S_mv rfl rfl rfl ?_
          refine S_val rfl rfl (Y_eql_f rfl rfl (by omega)) ?_
          refine S_val rfl rfl (Y_pick_t rfl rfl) ?_
          refine S_nx ?_
          refine T_cond_false rfl ?_
          refine T_skip ?_
          refine X_seq ?_
          refine T_seq ?_
          refine T_sr ?_
          refine S_mv rfl rfl rfl ?_
          refine S_val rfl rfl (Y_not rfl rfl) ?_
          refine S_mv rfl rfl rfl ?_
          refine S_mv rfl rfl rfl ?_
          refine S_val rfl rfl (Y_not rfl rfl) ?_
          refine S_val rfl rfl (Y_pick_f rfl rfl) ?_
          refine S_mv rfl rfl rfl ?_
          refine S_skip rfl rfl ?_
          refine S_skip rfl rfl ?_
          refine S_val rfl rfl (Y_pick_t rfl rfl) ?_
          refine S_mv rfl rfl rfl ?_
          refine S_skip rfl rfl ?_
          refine S_skip rfl rfl ?_
          refine S_val rfl rfl (Y_pick_t rfl rfl) ?_
          refine S_mv rfl rfl rfl ?_
          refine S_skip rfl rfl ?_
          refine S_skip rfl rfl ?_
          refine S_val rfl rfl (Y_pick_t rfl rfl) ?_
          refine S_mv rfl rfl rfl ?_
          refine S_skip rfl rfl ?_
          refine S_skip rfl rfl ?_
          refine S_val rfl rfl (Y_pick_t rfl rfl) ?_
          refine S_nx ?_
          refine T_cond_true rfl ?_
          refine T_sr ?_
          refine S_mv rfl rfl rfl ?_
          refine S_as rfl rfl rfl ?_
          refine S_as rfl rfl rfl ?_
          refine S_nx ?_
          refine T_ret ?_
          refine X_seq_ret ?_
          ((first | refine X_fin_ret ?_ | refine X_fin ?_); exact ⟨[_, _], [_], .cons (.tmp rfl) (.cons (.tmp rfl) .nil), Emb.one 0 rfl, ⟨_, rfl, rfl⟩⟩)
        · clear e3 e4 f3 f4 g3 g4 h hl
          refine Fn_of (args := [v]) Tryd.func16 rfl Tryd.ntmps16 Tryd.results16 (by simp) ?_
          refine T_sr ?_
          refine S_as rfl rfl rfl ?_
          refine S_as rfl rfl rfl ?_
          refine S_nx ?_
          refine T_sr ?_
          refine S_mv rfl rfl rfl ?_
          refine S_callV rfl rfl (bod rfl) (fun w hs => l0 _ (by first | exact hs.rowRd 0 rfl | exact hs.rowRd 1 rfl | exact hs.rowRd 2 rfl | exact hs.rowRd 3 rfl | exact hs.rowRd 4 rfl | exact hs.rowRd 5 rfl | exact hs.rowRd 6 rfl | exact hs.rowRd 7 rfl | exact hs.rowRd 8 rfl | exact hs.rowRd 9 rfl | exact hs.rowRd 10 rfl | exact hs.rowRd 11 rfl | exact hs.rowRd 12 rfl | exact hs.rowRd 13 rfl | exact Rd.st (by assumption) hs)) rfl rfl ?_
          refine S_mv rfl rfl rfl ?_
          refine S_val rfl rfl (Y_extract rfl rfl) ?_
          refine S_val rfl rfl (Y_extract rfl rfl) ?_
          refine S_as rfl rfl rfl ?_
          refine S_as rfl rfl rfl ?_
          refine S_nx ?_
          refine T_sr ?_
          refine S_mv rfl rfl rfl ?_
          refine S_callV rfl rfl (bod rfl) (fun w hs => l1 _ (by first | exact hs.rowRd 0 rfl | exact hs.rowRd 1 rfl | exact hs.rowRd 2 rfl | exact hs.rowRd 3 rfl | exact hs.rowRd 4 rfl | exact hs.rowRd 5 rfl | exact hs.rowRd 6 rfl | exact hs.rowRd 7 rfl | exact hs.rowRd 8 rfl | exact hs.rowRd 9 rfl | exact hs.rowRd 10 rfl | exact hs.rowRd 11 rfl | exact hs.rowRd 12 rfl | exact hs.rowRd 13 rfl | exact Rd.st (by assumption) hs)) rfl rfl ?_
          refine S_mv rfl rfl rfl ?_
          refine S_val rfl rfl (Y_extract rfl rfl) ?_
          refine S_val rfl rfl (Y_extract rfl rfl) ?_
          refine S_as rfl rfl rfl ?_
          refine S_as rfl rfl rfl ?_
          refine S_nx ?_
          refine T_sr ?_
          refine S_mv rfl rfl rfl ?_
          refine S_callV rfl rfl (bod rfl) (fun w hs => l2 _ (by first | exact hs.rowRd 0 rfl | exact hs.rowRd 1 rfl | exact hs.rowRd 2 rfl | exact hs.rowRd 3 rfl | exact hs.rowRd 4 rfl | exact hs.rowRd 5 rfl | exact hs.rowRd 6 rfl | exact hs.rowRd 7 rfl | exact hs.rowRd 8 rfl | exact hs.rowRd 9 rfl | exact hs.rowRd 10 rfl | exact hs.rowRd 11 rfl | exact hs.rowRd 12 rfl | exact hs.rowRd 13 rfl | exact Rd.st (by assumption) hs)) rfl rfl ?_
          refine S_mv rfl rfl rfl ?_
          refine S_val rfl rfl (Y_extract rfl rfl) ?_
          refine S_val rfl rfl (Y_extract rfl rfl) ?_
          refine S_as rfl rfl rfl ?_
          refine S_as rfl rfl rfl ?_
          refine S_nx ?_
          refine T_sr ?_
          refine S_sliceR (und rfl) (siz rfl) (zer rfl) rfl rfl rfl rfl fun _ => ?_
          refine S_as rfl rfl rfl ?_
          refine S_nx ?_
          refine T_seq ?_
          refine T_sr ?_
          refine S_mv rfl rfl rfl ?_
          refine S_mv rfl rfl rfl ?_
          refine S_mv rfl rfl rfl ?_
          refine S_val rfl rfl (Y_pick_t rfl rfl) ?_
          refine S_mv rfl rfl rfl ?_
          refine S_mv rfl rfl rfl ?_
          refine S_val rfl rfl (Y_eql_f rfl rfl (by omega)) ?_
          refine S_val rfl rfl (Y_pick_t rfl rfl) ?_
          refine S_mv rfl rfl rfl ?_
          refine S_skip rfl rfl ?_
          refine S_skip rfl rfl ?_
          refine S_val rfl rfl (Y_pick_f rfl rfl) ?_
          refine S_nx ?_
          refine T_cond_false rfl ?_
          refine T_skip ?_
          refine X_seq ?_
          refine T_seq ?_
          refine T_sr ?_
          refine S_mv rfl rfl rfl ?_
          refine S_val rfl rfl (Y_not rfl rfl) ?_
          refine S_mv rfl rfl rfl ?_
          refine S_mv rfl rfl rfl ?_
          refine S_val rfl rfl (Y_not rfl rfl) ?_
          refine S_val rfl rfl (Y_pick_f rfl rfl) ?_
          refine S_mv rfl rfl rfl ?_
          refine S_skip rfl rfl ?_
          refine S_skip rfl rfl ?_
          refine S_val rfl rfl (Y_pick_t rfl rfl) ?_
          refine S_mv rfl rfl rfl ?_
          refine S_skip rfl rfl ?_
          refine S_skip rfl rfl ?_
          refine S_val rfl rfl (Y_pick_t rfl rfl) ?_
          refine S_mv rfl rfl rfl ?_
          refine S_skip rfl rfl ?_
          refine S_skip rfl rfl ?_
          refine S_val rfl rfl (Y_pick_t rfl rfl) ?_
          refine S_mv rfl rfl rfl ?_
          refine S_skip rfl rfl ?_
          refine S_skip rfl rfl ?_
          refine S_val rfl rfl (Y_pick_t rfl rfl) ?_
          refine S_nx ?_
          refine T_cond_true rfl ?_
          refine T_sr ?_
          refine S_mv rfl rfl rfl ?_
          refine S_as rfl rfl rfl ?_
          refine S_as rfl rfl rfl ?_
          refine S_nx ?_
          refine T_ret ?_
          refine X_seq_ret ?_
          ((first | refine X_fin_ret ?_ | refine X_fin ?_); exact ⟨[_, _], [_], .cons (.tmp rfl) (.cons (.tmp rfl) .nil), Emb.one 0 rfl, ⟨_, rfl, rfl⟩⟩)
    · obtain rfl := f3 rfl
      cases b2
      · clear e3 e4 f3 f4 g3 g4 h hl
        refine Fn_of (args := [v]) Tryd.func16 rfl Tryd.ntmps16 Tryd.results16 (by simp) ?_
        refine T_sr ?_
        refine S_as rfl rfl rfl ?_
        refine S_as rfl rfl rfl ?_
        refine S_nx ?_
        refine T_sr ?_
        refine S_mv rfl rfl rfl ?_
        refine S_callV rfl rfl (bod rfl) (fun w hs => l0 _ (by first | exact hs.rowRd 0 rfl | exact hs.rowRd 1 rfl | exact hs.rowRd 2 rfl | exact hs.rowRd 3 rfl | exact hs.rowRd 4 rfl | exact hs.rowRd 5 rfl | exact hs.rowRd 6 rfl | exact hs.rowRd 7 rfl | exact hs.rowRd 8 rfl | exact hs.rowRd 9 rfl | exact hs.rowRd 10 rfl | exact hs.rowRd 11 rfl | exact hs.rowRd 12 rfl | exact hs.rowRd 13 rfl | exact Rd.st (by assumption) hs)) rfl rfl ?_
        refine S_mv rfl rfl rfl ?_
        refine S_val rfl rfl (Y_extract rfl rfl) ?_
        refine S_val rfl rfl (Y_extract rfl rfl) ?_
        refine S_as rfl rfl rfl ?_
        refine S_as rfl rfl rfl ?_
        refine S_nx ?_
        refine T_sr ?_
        refine S_mv rfl rfl rfl ?_
        refine S_callV rfl rfl (bod rfl) (fun w hs => l1 _ (by first | exact hs.rowRd 0 rfl | exact hs.rowRd 1 rfl | exact hs.rowRd 2 rfl | exact hs.rowRd 3 rfl | exact hs.rowRd 4 rfl | exact hs.rowRd 5 rfl | exact hs.rowRd 6 rfl | exact hs.rowRd 7 rfl | exact hs.rowRd 8 rfl | exact hs.rowRd 9 rfl | exact hs.rowRd 10 rfl | exact hs.rowRd 11 rfl | exact hs.rowRd 12 rfl | exact hs.rowRd 13 rfl | exact Rd.st (by assumption) hs)) rfl rfl ?_
        refine S_mv rfl rfl rfl ?_
        refine S_val rfl rfl (Y_extract rfl rfl) ?_
        refine S_val rfl rfl (Y_extract rfl rfl) ?_
        refine S_as rfl rfl rfl ?_
        refine S_as rfl rfl rfl ?_
        refine S_nx ?_
        refine T_sr ?_
        refine S_mv rfl rfl rfl ?_
        refine S_callV rfl rfl (bod rfl) (fun w hs => l2 _ (by first | exact hs.rowRd 0 rfl | exact hs.rowRd 1 rfl | exact hs.rowRd 2 rfl | exact hs.rowRd 3 rfl | exact hs.rowRd 4 rfl | exact hs.rowRd 5 rfl | exact hs.rowRd 6 rfl | exact hs.rowRd 7 rfl | exact hs.rowRd 8 rfl | exact hs.rowRd 9 rfl | exact hs.rowRd 10 rfl | exact hs.rowRd 11 rfl | exact hs.rowRd 12 rfl | exact hs.rowRd 13 rfl | exact Rd.st (by assumption) hs)) rfl rfl ?_
        refine S_mv rfl rfl rfl ?_
        refine S_val rfl rfl (Y_extract rfl rfl) ?_
        refine S_val rfl rfl (Y_extract rfl rfl) ?_
        refine S_as rfl rfl rfl ?_
        refine S_as rfl rfl rfl ?_
        refine S_nx ?_
        refine T_sr ?_
        refine S_sliceR (und rfl) (siz rfl) (zer rfl) rfl rfl rfl rfl fun _ => ?_
        refine S_as rfl rfl rfl ?_
        refine S_nx ?_
        refine T_seq ?_
        refine T_sr ?_
        refine S_mv rfl rfl rfl ?_
        refine S_mv rfl rfl rfl ?_
        refine S_mv rfl rfl rfl ?_
        refine S_val rfl rfl (Y_pick_t rfl rfl) ?_
        refine S_mv rfl rfl rfl ?_
        refine S_skip rfl rfl ?_
        refine S_skip rfl rfl ?_
        refine S_val rfl rfl (Y_pick_f rfl rfl) ?_
        refine S_mv rfl rfl rfl ?_
        refine S_skip rfl rfl ?_
        refine S_skip rfl rfl ?_
        refine S_val rfl rfl (Y_pick_f rfl rfl) ?_
        refine S_nx ?_
        refine T_cond_false rfl ?_
        refine T_skip ?_
        refine X_seq ?_
        refine T_seq ?_
        refine T_sr ?_
        refine S_mv rfl rfl rfl ?_
        refine S_val rfl rfl (Y_not rfl rfl) ?_
        refine S_mv rfl rfl rfl ?_
        refine S_mv rfl rfl rfl ?_
        refine S_val rfl rfl (Y_not rfl rfl) ?_
        refine S_val rfl rfl (Y_pick_f rfl rfl) ?_
        refine S_mv rfl rfl rfl ?_
        refine S_mv rfl rfl rfl ?_
        refine S_val rfl rfl (Y_not rfl rfl) ?_
        refine S_val rfl rfl (Y_pick_f rfl rfl) ?_
        refine S_mv rfl rfl rfl ?_
        refine S_skip rfl rfl ?_
        refine S_skip rfl rfl ?_
        refine S_val rfl rfl (Y_pick_t rfl rfl) ?_
        refine S_mv rfl rfl rfl ?_
        refine S_skip rfl rfl ?_
        refine S_skip rfl rfl ?_
        refine S_val rfl rfl (Y_pick_t rfl rfl) ?_
        refine S_mv rfl rfl rfl ?_
        refine S_skip rfl rfl ?_
        refine S_skip rfl rfl ?_
        refine S_val rfl rfl (Y_pick_t rfl rfl) ?_
        refine S_nx ?_
        refine T_cond_true rfl ?_
        refine T_sr ?_
        refine S_mv rfl rfl rfl ?_
        refine S_as rfl rfl rfl ?_
        refine S_as rfl rfl rfl ?_
        refine S_nx ?_
        refine T_ret ?_
        refine X_seq_ret ?_
        ((first | refine X_fin_ret ?_ | refine X_fin ?_); exact ⟨[_, _], [_], .cons (.tmp rfl) (.cons (.tmp rfl) .nil), Emb.one 0 rfl, ⟨_, rfl, rfl⟩⟩)
      · obtain rfl := g3 rfl
        clear e3 e4 f3 f4 g3 g4
        have h8 : (64 < y0) ∨ (¬ 64 < y0 ∧ y0 = 0 ∧ ¬ y2 = 0 ∧ 64 < y1) ∨ (¬ 64 < y0 ∧ y0 = 0 ∧ ¬ y2 = 0 ∧ ¬ 64 < y1 ∧ 64 < y2) ∨ (¬ 64 < y0 ∧ ¬ y0 = 0 ∧ 64 < y1) ∨ (¬ 64 < y0 ∧ ¬ y0 = 0 ∧ ¬ 64 < y1 ∧ 64 < y2) := by omega
        clear h hl
        rcases h8 with h1 | ⟨h1, rfl, h2, h3⟩ | ⟨h1, rfl, h2, h3, h4⟩ | ⟨h1, h2, h3⟩ | ⟨h1, h2, h3, h4⟩
        · have h2 : ¬ y0 = 0 := by omega
          refine Fn_of (args := [v]) Tryd.func16 rfl Tryd.ntmps16 Tryd.results16 (by simp) ?_
          refine T_sr ?_
          refine S_as rfl rfl rfl ?_
          refine S_as rfl rfl rfl ?_
          refine S_nx ?_
          refine T_sr ?_
          refine S_mv rfl rfl rfl ?_
          refine S_callV rfl rfl (bod rfl) (fun w hs => l0 _ (by first | exact hs.rowRd 0 rfl | exact hs.rowRd 1 rfl | exact hs.rowRd 2 rfl | exact hs.rowRd 3 rfl | exact hs.rowRd 4 rfl | exact hs.rowRd 5 rfl | exact hs.rowRd 6 rfl | exact hs.rowRd 7 rfl | exact hs.rowRd 8 rfl | exact hs.rowRd 9 rfl | exact hs.rowRd 10 rfl | exact hs.rowRd 11 rfl | exact hs.rowRd 12 rfl | exact hs.rowRd 13 rfl | exact Rd.st (by assumption) hs)) rfl rfl ?_
          refine S_mv rfl rfl rfl ?_
          refine S_val rfl rfl (Y_extract rfl rfl) ?_
          refine S_val rfl rfl (Y_extract rfl rfl) ?_
          refine S_as rfl rfl rfl ?_
          refine S_as rfl rfl rfl ?_
          refine S_nx ?_
          refine T_sr ?_
          refine S_mv rfl rfl rfl ?_
          refine S_callV rfl rfl (bod rfl) (fun w hs => l1 _ (by first | exact hs.rowRd 0 rfl | exact hs.rowRd 1 rfl | exact hs.rowRd 2 rfl | exact hs.rowRd 3 rfl | exact hs.rowRd 4 rfl | exact hs.rowRd 5 rfl | exact hs.rowRd 6 rfl | exact hs.rowRd 7 rfl | exact hs.rowRd 8 rfl | exact hs.rowRd 9 rfl | exact hs.rowRd 10 rfl | exact hs.rowRd 11 rfl | exact hs.rowRd 12 rfl | exact hs.rowRd 13 rfl | exact Rd.st (by assumption) hs)) rfl rfl ?_
          refine S_mv rfl rfl rfl ?_
          refine S_val rfl rfl (Y_extract rfl rfl) ?_
          refine S_val rfl rfl (Y_extract rfl rfl) ?_
          refine S_as rfl rfl rfl ?_
          refine S_as rfl rfl rfl ?_
          refine S_nx ?_
          refine T_sr ?_
          refine S_mv rfl rfl rfl ?_
          refine S_callV rfl rfl (bod rfl) (fun w hs => l2 _ (by first | exact hs.rowRd 0 rfl | exact hs.rowRd 1 rfl | exact hs.rowRd 2 rfl | exact hs.rowRd 3 rfl | exact hs.rowRd 4 rfl | exact hs.rowRd 5 rfl | exact hs.rowRd 6 rfl | exact hs.rowRd 7 rfl | exact hs.rowRd 8 rfl | exact hs.rowRd 9 rfl | exact hs.rowRd 10 rfl | exact hs.rowRd 11 rfl | exact hs.rowRd 12 rfl | exact hs.rowRd 13 rfl | exact Rd.st (by assumption) hs)) rfl rfl ?_
          refine S_mv rfl rfl rfl ?_
          refine S_val rfl rfl (Y_extract rfl rfl) ?_
          refine S_val rfl rfl (Y_extract rfl rfl) ?_
          refine S_as rfl rfl rfl ?_
          refine S_as rfl rfl rfl ?_
          refine S_nx ?_
          refine T_sr ?_
          refine S_sliceR (und rfl) (siz rfl) (zer rfl) rfl rfl rfl rfl fun _ => ?_
          refine S_as rfl rfl rfl ?_
          refine S_nx ?_
          refine T_seq ?_
          refine T_sr ?_
          refine S_mv rfl rfl rfl ?_
          refine S_mv rfl rfl rfl ?_
          refine S_mv rfl rfl rfl ?_
          refine S_val rfl rfl (Y_pick_t rfl rfl) ?_
          refine S_mv rfl rfl rfl ?_
          refine S_mv rfl rfl rfl ?_
          refine S_val rfl rfl (Y_eql_f rfl rfl (by omega)) ?_
          refine S_val rfl rfl (Y_pick_t rfl rfl) ?_
          refine S_mv rfl rfl rfl ?_
          refine S_skip rfl rfl ?_
          refine S_skip rfl rfl ?_
          refine S_val rfl rfl (Y_pick_f rfl rfl) ?_
          refine S_nx ?_
          refine T_cond_false rfl ?_
          refine T_skip ?_
          refine X_seq ?_
          refine T_seq ?_
          refine T_sr ?_
          refine S_mv rfl rfl rfl ?_
          refine S_val rfl rfl (Y_not rfl rfl) ?_
          refine S_mv rfl rfl rfl ?_
          refine S_mv rfl rfl rfl ?_
          refine S_val rfl rfl (Y_not rfl rfl) ?_
          refine S_val rfl rfl (Y_pick_f rfl rfl) ?_
          refine S_mv rfl rfl rfl ?_
          refine S_mv rfl rfl rfl ?_
          refine S_val rfl rfl (Y_not rfl rfl) ?_
          refine S_val rfl rfl (Y_pick_f rfl rfl) ?_
          refine S_mv rfl rfl rfl ?_
          refine S_mv rfl rfl rfl ?_
          refine S_val rfl rfl (Y_gtr_t rfl rfl (by omega)) ?_
          refine S_val rfl rfl (Y_pick_f rfl rfl) ?_
          refine S_mv rfl rfl rfl ?_
          refine S_skip rfl rfl ?_
          refine S_skip rfl rfl ?_
          refine S_val rfl rfl (Y_pick_t rfl rfl) ?_
          refine S_mv rfl rfl rfl ?_
          refine S_skip rfl rfl ?_
          refine S_skip rfl rfl ?_
          refine S_val rfl rfl (Y_pick_t rfl rfl) ?_
          refine S_nx ?_
          refine T_cond_true rfl ?_
          refine T_sr ?_
          refine S_mv rfl rfl rfl ?_
          refine S_as rfl rfl rfl ?_
          refine S_as rfl rfl rfl ?_
          refine S_nx ?_
          refine T_ret ?_
          refine X_seq_ret ?_
          ((first | refine X_fin_ret ?_ | refine X_fin ?_); exact ⟨[_, _], [_], .cons (.tmp rfl) (.cons (.tmp rfl) .nil), Emb.one 0 rfl, ⟨_, rfl, rfl⟩⟩)
        · skip
          refine Fn_of (args := [v]) Tryd.func16 rfl Tryd.ntmps16 Tryd.results16 (by simp) ?_
          refine T_sr ?_
          refine S_as rfl rfl rfl ?_
          refine S_as rfl rfl rfl ?_
          refine S_nx ?_
          refine T_sr ?_
          refine S_mv rfl rfl rfl ?_
          refine S_callV rfl rfl (bod rfl) (fun w hs => l0 _ (by first | exact hs.rowRd 0 rfl | exact hs.rowRd 1 rfl | exact hs.rowRd 2 rfl | exact hs.rowRd 3 rfl | exact hs.rowRd 4 rfl | exact hs.rowRd 5 rfl | exact hs.rowRd 6 rfl | exact hs.rowRd 7 rfl | exact hs.rowRd 8 rfl | exact hs.rowRd 9 rfl | exact hs.rowRd 10 rfl | exact hs.rowRd 11 rfl | exact hs.rowRd 12 rfl | exact hs.rowRd 13 rfl | exact Rd.st (by assumption) hs)) rfl rfl ?_
          refine S_mv rfl rfl rfl ?_
          refine S_val rfl rfl (Y_extract rfl rfl) ?_
          refine S_val rfl rfl (Y_extract rfl rfl) ?_
          refine S_as rfl rfl rfl ?_
          refine S_as rfl rfl rfl ?_
          refine S_nx ?_
          refine T_sr ?_
          refine S_mv rfl rfl rfl ?_
          refine S_callV rfl rfl (bod rfl) (fun w hs => l1 _ (by first | exact hs.rowRd 0 rfl | exact hs.rowRd 1 rfl | exact hs.rowRd 2 rfl | exact hs.rowRd 3 rfl | exact hs.rowRd 4 rfl | exact hs.rowRd 5 rfl | exact hs.rowRd 6 rfl | exact hs.rowRd 7 rfl | exact hs.rowRd 8 rfl | exact hs.rowRd 9 rfl | exact hs.rowRd 10 rfl | exact hs.rowRd 11 rfl | exact hs.rowRd 12 rfl | exact hs.rowRd 13 rfl | exact Rd.st (by assumption) hs)) rfl rfl ?_
          refine S_mv rfl rfl rfl ?_
          refine S_val rfl rfl (Y_extract rfl rfl) ?_
          refine S_val rfl rfl (Y_extract rfl rfl) ?_
          refine S_as rfl rfl rfl ?_
          refine S_as rfl rfl rfl ?_
          refine S_nx ?_
          refine T_sr ?_
          refine S_mv rfl rfl rfl ?_
          refine S_callV rfl rfl (bod rfl) (fun w hs => l2 _ (by first | exact hs.rowRd 0 rfl | exact hs.rowRd 1 rfl | exact hs.rowRd 2 rfl | exact hs.rowRd 3 rfl | exact hs.rowRd 4 rfl | exact hs.rowRd 5 rfl | exact hs.rowRd 6 rfl | exact hs.rowRd 7 rfl | exact hs.rowRd 8 rfl | exact hs.rowRd 9 rfl | exact hs.rowRd 10 rfl | exact hs.rowRd 11 rfl | exact hs.rowRd 12 rfl | exact hs.rowRd 13 rfl | exact Rd.st (by assumption) hs)) rfl rfl ?_
          refine S_mv rfl rfl rfl ?_
          refine S_val rfl rfl (Y_extract rfl rfl) ?_
          refine S_val rfl rfl (Y_extract rfl rfl) ?_
          refine S_as rfl rfl rfl ?_
          refine S_as rfl rfl rfl ?_
          refine S_nx ?_
          refine T_sr ?_
          refine S_sliceR (und rfl) (siz rfl) (zer rfl) rfl rfl rfl rfl fun _ => ?_
          refine S_as rfl rfl rfl ?_
          refine S_nx ?_
          refine T_seq ?_
          refine T_sr ?_
          refine S_mv rfl rfl rfl ?_
          refine S_mv rfl rfl rfl ?_
          refine S_mv rfl rfl rfl ?_
          refine S_val rfl rfl (Y_pick_t rfl rfl) ?_
          refine S_mv rfl rfl rfl ?_
          refine S_mv rfl rfl rfl ?_
          refine S_val rfl rfl (Y_eql_t rfl rfl (by decide)) ?_
          refine S_val rfl rfl (Y_pick_t rfl rfl) ?_
          refine S_mv rfl rfl rfl ?_
          refine S_mv rfl rfl rfl ?_
          refine S_val rfl rfl (Y_eql_f rfl rfl (by omega)) ?_
          refine S_val rfl rfl (Y_pick_t rfl rfl) ?_
          refine S_nx ?_
          refine T_cond_false rfl ?_
          refine T_skip ?_
          refine X_seq ?_
          refine T_seq ?_
          refine T_sr ?_
          refine S_mv rfl rfl rfl ?_
          refine S_val rfl rfl (Y_not rfl rfl) ?_
          refine S_mv rfl rfl rfl ?_
          refine S_mv rfl rfl rfl ?_
          refine S_val rfl rfl (Y_not rfl rfl) ?_
          refine S_val rfl rfl (Y_pick_f rfl rfl) ?_
          refine S_mv rfl rfl rfl ?_
          refine S_mv rfl rfl rfl ?_
          refine S_val rfl rfl (Y_not rfl rfl) ?_
          refine S_val rfl rfl (Y_pick_f rfl rfl) ?_
          refine S_mv rfl rfl rfl ?_
          refine S_mv rfl rfl rfl ?_
          refine S_val rfl rfl (Y_gtr_f rfl rfl (by decide)) ?_
          refine S_val rfl rfl (Y_pick_f rfl rfl) ?_
          refine S_mv rfl rfl rfl ?_
          refine S_mv rfl rfl rfl ?_
          refine S_val rfl rfl (Y_gtr_t rfl rfl (by omega)) ?_
          refine S_val rfl rfl (Y_pick_f rfl rfl) ?_
          refine S_mv rfl rfl rfl ?_
          refine S_skip rfl rfl ?_
          refine S_skip rfl rfl ?_
          refine S_val rfl rfl (Y_pick_t rfl rfl) ?_
          refine S_nx ?_
          refine T_cond_true rfl ?_
          refine T_sr ?_
          refine S_mv rfl rfl rfl ?_
          refine S_as rfl rfl rfl ?_
          refine S_as rfl rfl rfl ?_
          refine S_nx ?_
          refine T_ret ?_
          refine X_seq_ret ?_
          ((first | refine X_fin_ret ?_ | refine X_fin ?_); exact ⟨[_, _], [_], .cons (.tmp rfl) (.cons (.tmp rfl) .nil), Emb.one 0 rfl, ⟨_, rfl, rfl⟩⟩)
        · skip
          refine Fn_of (args := [v]) Tryd.func16 rfl Tryd.ntmps16 Tryd.results16 (by simp) ?_
          refine T_sr ?_
          refine S_as rfl rfl rfl ?_
          refine S_as rfl rfl rfl ?_
          refine S_nx ?_
          refine T_sr ?_
          refine S_mv rfl rfl rfl ?_
          refine S_callV rfl rfl (bod rfl) (fun w hs => l0 _ (by first | exact hs.rowRd 0 rfl | exact hs.rowRd 1 rfl | exact hs.rowRd 2 rfl | exact hs.rowRd 3 rfl | exact hs.rowRd 4 rfl | exact hs.rowRd 5 rfl | exact hs.rowRd 6 rfl | exact hs.rowRd 7 rfl | exact hs.rowRd 8 rfl | exact hs.rowRd 9 rfl | exact hs.rowRd 10 rfl | exact hs.rowRd 11 rfl | exact hs.rowRd 12 rfl | exact hs.rowRd 13 rfl | exact Rd.st (by assumption) hs)) rfl rfl ?_
          refine S_mv rfl rfl rfl ?_
          refine S_val rfl rfl (Y_extract rfl rfl) ?_
          refine S_val rfl rfl (Y_extract rfl rfl) ?_
          refine S_as rfl rfl rfl ?_
          refine S_as rfl rfl rfl ?_
          refine S_nx ?_
          refine T_sr ?_
          refine S_mv rfl rfl rfl ?_
          refine S_callV rfl rfl (bod rfl) (fun w hs => l1 _ (by first | exact hs.rowRd 0 rfl | exact hs.rowRd 1 rfl | exact hs.rowRd 2 rfl | exact hs.rowRd 3 rfl | exact hs.rowRd 4 rfl | exact hs.rowRd 5 rfl | exact hs.rowRd 6 rfl | exact hs.rowRd 7 rfl | exact hs.rowRd 8 rfl | exact hs.rowRd 9 rfl | exact hs.rowRd 10 rfl | exact hs.rowRd 11 rfl | exact hs.rowRd 12 rfl | exact hs.rowRd 13 rfl | exact Rd.st (by assumption) hs)) rfl rfl ?_
          refine S_mv rfl rfl rfl ?_
          refine S_val rfl rfl (Y_extract rfl rfl) ?_
          refine S_val rfl rfl (Y_extract rfl rfl) ?_
          refine S_as rfl rfl rfl ?_
          refine S_as rfl rfl rfl ?_
          refine S_nx ?_
          refine T_sr ?_
          refine S_mv rfl rfl rfl ?_
          refine S_callV rfl rfl (bod rfl) (fun w hs => l2 _ (by first | exact hs.rowRd 0 rfl | exact hs.rowRd 1 rfl | exact hs.rowRd 2 rfl | exact hs.rowRd 3 rfl | exact hs.rowRd 4 rfl | exact hs.rowRd 5 rfl | exact hs.rowRd 6 rfl | exact hs.rowRd 7 rfl | exact hs.rowRd 8 rfl | exact hs.rowRd 9 rfl | exact hs.rowRd 10 rfl | exact hs.rowRd 11 rfl | exact hs.rowRd 12 rfl | exact hs.rowRd 13 rfl | exact Rd.st (by assumption) hs)) rfl rfl ?_
          refine S_mv rfl rfl rfl ?_
          refine S_val rfl rfl (Y_extract rfl rfl) ?_
          refine S_val rfl rfl (Y_extract rfl rfl) ?_
          refine S_as rfl rfl rfl ?_
          refine S_as rfl rfl rfl ?_
          refine S_nx ?_
          refine T_sr ?_
          refine S_sliceR (und rfl) (siz rfl) (zer rfl) rfl rfl rfl rfl fun _ => ?_
          refine S_as rfl rfl rfl ?_
          refine S_nx ?_
          refine T_seq ?_
          refine T_sr ?_
          refine S_mv rfl rfl rfl ?_
          refine S_mv rfl rfl rfl ?_
          refine S_mv rfl rfl rfl ?_
          refine S_val rfl rfl (Y_pick_t rfl rfl) ?_
          refine S_mv rfl rfl rfl ?_
          refine S_mv rfl rfl rfl ?_
          refine S_val rfl rfl (Y_eql_t rfl rfl (by decide)) ?_
          refine S_val rfl rfl (Y_pick_t rfl rfl) ?_
          refine S_mv rfl rfl rfl ?_
          refine S_mv rfl rfl rfl ?_
          refine S_val rfl rfl (Y_eql_f rfl rfl (by omega)) ?_
          refine S_val rfl rfl (Y_pick_t rfl rfl) ?_
          refine S_nx ?_
          refine T_cond_false rfl ?_
          refine T_skip ?_
          refine X_seq ?_
          refine T_seq ?_
          refine T_sr ?_
          refine S_mv rfl rfl rfl ?_
          refine S_val rfl rfl (Y_not rfl rfl) ?_
          refine S_mv rfl rfl rfl ?_
          refine S_mv rfl rfl rfl ?_
          refine S_val rfl rfl (Y_not rfl rfl) ?_
          refine S_val rfl rfl (Y_pick_f rfl rfl) ?_
          refine S_mv rfl rfl rfl ?_
          refine S_mv rfl rfl rfl ?_
          refine S_val rfl rfl (Y_not rfl rfl) ?_
          refine S_val rfl rfl (Y_pick_f rfl rfl) ?_
          refine S_mv rfl rfl rfl ?_
          refine S_mv rfl rfl rfl ?_
          refine S_val rfl rfl (Y_gtr_f rfl rfl (by decide)) ?_
          refine S_val rfl rfl (Y_pick_f rfl rfl) ?_
          refine S_mv rfl rfl rfl ?_
          refine S_mv rfl rfl rfl ?_
          refine S_val rfl rfl (Y_gtr_f rfl rfl (by omega)) ?_
          refine S_val rfl rfl (Y_pick_f rfl rfl) ?_
          refine S_mv rfl rfl rfl ?_
          refine S_mv rfl rfl rfl ?_
          refine S_val rfl rfl (Y_gtr_t rfl rfl (by omega)) ?_
          refine S_val rfl rfl (Y_pick_f rfl rfl) ?_
          refine S_nx ?_
          refine T_cond_true rfl ?_
          refine T_sr ?_
          refine S_mv rfl rfl rfl ?_
          refine S_as rfl rfl rfl ?_
          refine S_as rfl rfl rfl ?_
          refine S_nx ?_
          refine T_ret ?_
          refine X_seq_ret ?_
          ((first | refine X_fin_ret ?_ | refine X_fin ?_); exact ⟨[_, _], [_], .cons (.tmp rfl) (.cons (.tmp rfl) .nil), Emb.one 0 rfl, ⟨_, rfl, rfl⟩⟩)
        · skip
          refine Fn_of (args := [v]) Tryd.func16 rfl Tryd.ntmps16 Tryd.results16 (by simp) ?_
          refine T_sr ?_
          refine S_as rfl rfl rfl ?_
          refine S_as rfl rfl rfl ?_
          refine S_nx ?_
          refine T_sr ?_
          refine S_mv rfl rfl rfl ?_
          refine S_callV rfl rfl (bod rfl) (fun w hs => l0 _ (by first | exact hs.rowRd 0 rfl | exact hs.rowRd 1 rfl | exact hs.rowRd 2 rfl | exact hs.rowRd 3 rfl | exact hs.rowRd 4 rfl | exact hs.rowRd 5 rfl | exact hs.rowRd 6 rfl | exact hs.rowRd 7 rfl | exact hs.rowRd 8 rfl | exact hs.rowRd 9 rfl | exact hs.rowRd 10 rfl | exact hs.rowRd 11 rfl | exact hs.rowRd 12 rfl | exact hs.rowRd 13 rfl | exact Rd.st (by assumption) hs)) rfl rfl ?_
          refine S_mv rfl rfl rfl ?_
          refine S_val rfl rfl (Y_extract rfl rfl) ?_
          refine S_val rfl rfl (Y_extract rfl rfl) ?_
          refine S_as rfl rfl rfl ?_
          refine S_as rfl rfl rfl ?_
          refine S_nx ?_
          refine T_sr ?_
          refine S_mv rfl rfl rfl ?_
          refine S_callV rfl rfl (bod rfl) (fun w hs => l1 _ (by first | exact hs.rowRd 0 rfl | exact hs.rowRd 1 rfl | exact hs.rowRd 2 rfl | exact hs.rowRd 3 rfl | exact hs.rowRd 4 rfl | exact hs.rowRd 5 rfl | exact hs.rowRd 6 rfl | exact hs.rowRd 7 rfl | exact hs.rowRd 8 rfl | exact hs.rowRd 9 rfl | exact hs.rowRd 10 rfl | exact hs.rowRd 11 rfl | exact hs.rowRd 12 rfl | exact hs.rowRd 13 rfl | exact Rd.st (by assumption) hs)) rfl rfl ?_
          refine S_mv rfl rfl rfl ?_
          refine S_val rfl rfl (Y_extract rfl rfl) ?_
          refine S_val rfl rfl (Y_extract rfl rfl) ?_
          refine S_as rfl rfl rfl ?_
          refine S_as rfl rfl rfl ?_
          refine S_nx ?_
          refine T_sr ?_
          refine S_mv rfl rfl rfl ?_
          refine S_callV rfl rfl (bod rfl) (fun w hs => l2 _ (by first | exact hs.rowRd 0 rfl | exact hs.rowRd 1 rfl | exact hs.rowRd 2 rfl | exact hs.rowRd 3 rfl | exact hs.rowRd 4 rfl | exact hs.rowRd 5 rfl | exact hs.rowRd 6 rfl | exact hs.rowRd 7 rfl | exact hs.rowRd 8 rfl | exact hs.rowRd 9 rfl | exact hs.rowRd 10 rfl | exact hs.rowRd 11 rfl | exact hs.rowRd 12 rfl | exact hs.rowRd 13 rfl | exact Rd.st (by assumption) hs)) rfl rfl ?_
          refine S_mv rfl rfl rfl ?_
          refine S_val rfl rfl (Y_extract rfl rfl) ?_
          refine S_val rfl rfl (Y_extract rfl rfl) ?_
          refine S_as rfl rfl rfl ?_
          refine S_as rfl rfl rfl ?_
          refine S_nx ?_
          refine T_sr ?_
          refine S_sliceR (und rfl) (siz rfl) (zer rfl) rfl rfl rfl rfl fun _ => ?_
          refine S_as rfl rfl rfl ?_
          refine S_nx ?_
          refine T_seq ?_
          refine T_sr ?_
          refine S_mv rfl rfl rfl ?_
          refine S_mv rfl rfl rfl ?_
          refine S_mv rfl rfl rfl ?_
          refine S_val rfl rfl (Y_pick_t rfl rfl) ?_
          refine S_mv rfl rfl rfl ?_
          refine S_mv rfl rfl rfl ?_
          refine S_val rfl rfl (Y_eql_f rfl rfl (by omega)) ?_
          refine S_val rfl rfl (Y_pick_t rfl rfl) ?_
          refine S_mv rfl rfl rfl ?_
          refine S_skip rfl rfl ?_
          refine S_skip rfl rfl ?_
          refine S_val rfl rfl (Y_pick_f rfl rfl) ?_
          refine S_nx ?_
          refine T_cond_false rfl ?_
          refine T_skip ?_
          refine X_seq ?_
          refine T_seq ?_
          refine T_sr ?_
          refine S_mv rfl rfl rfl ?_
          refine S_val rfl rfl (Y_not rfl rfl) ?_
          refine S_mv rfl rfl rfl ?_
          refine S_mv rfl rfl rfl ?_
          refine S_val rfl rfl (Y_not rfl rfl) ?_
          refine S_val rfl rfl (Y_pick_f rfl rfl) ?_
          refine S_mv rfl rfl rfl ?_
          refine S_mv rfl rfl rfl ?_
          refine S_val rfl rfl (Y_not rfl rfl) ?_
          refine S_val rfl rfl (Y_pick_f rfl rfl) ?_
          refine S_mv rfl rfl rfl ?_
          refine S_mv rfl rfl rfl ?_
          refine S_val rfl rfl (Y_gtr_f rfl rfl (by omega)) ?_
          refine S_val rfl rfl (Y_pick_f rfl rfl) ?_
          refine S_mv rfl rfl rfl ?_
          refine S_mv rfl rfl rfl ?_
          refine S_val rfl rfl (Y_gtr_t rfl rfl (by omega)) ?_
          refine S_val rfl rfl (Y_pick_f rfl rfl) ?_
          refine S_mv rfl rfl rfl ?_
          refine S_skip rfl rfl ?_
          refine S_skip rfl rfl ?_
          refine S_val rfl rfl (Y_pick_t rfl rfl) ?_
          refine S_nx ?_
          refine T_cond_true rfl ?_
          refine T_sr ?_
          refine S_mv rfl rfl rfl ?_
          refine S_as rfl rfl rfl ?_
          refine S_as rfl rfl rfl ?_
          refine S_nx ?_
          refine T_ret ?_
          refine X_seq_ret ?_
          ((first | refine X_fin_ret ?_ | refine X_fin ?_); exact ⟨[_, _], [_], .cons (.tmp rfl) (.cons (.tmp rfl) .nil), Emb.one 0 rfl, ⟨_, rfl, rfl⟩⟩)
        · skip
          refine Fn_of (args := [v]) Tryd.func16 rfl Tryd.ntmps16 Tryd.results16 (by simp) ?_
          refine T_sr ?_
          refine S_as rfl rfl rfl ?_
          refine S_as rfl rfl rfl ?_
          refine S_nx ?_
          refine T_sr ?_
          refine S_mv rfl rfl rfl ?_
          refine S_callV rfl rfl (bod rfl) (fun w hs => l0 _ (by first | exact hs.rowRd 0 rfl | exact hs.rowRd 1 rfl | exact hs.rowRd 2 rfl | exact hs.rowRd 3 rfl | exact hs.rowRd 4 rfl | exact hs.rowRd 5 rfl | exact hs.rowRd 6 rfl | exact hs.rowRd 7 rfl | exact hs.rowRd 8 rfl | exact hs.rowRd 9 rfl | exact hs.rowRd 10 rfl | exact hs.rowRd 11 rfl | exact hs.rowRd 12 rfl | exact hs.rowRd 13 rfl | exact Rd.st (by assumption) hs)) rfl rfl ?_
          refine S_mv rfl rfl rfl ?_
          refine S_val rfl rfl (Y_extract rfl rfl) ?_
          refine S_val rfl rfl (Y_extract rfl rfl) ?_
          refine S_as rfl rfl rfl ?_
          refine S_as rfl rfl rfl ?_
          refine S_nx ?_
          refine T_sr ?_
          refine S_mv rfl rfl rfl ?_
          refine S_callV rfl rfl (bod rfl) (fun w hs => l1 _ (by first | exact hs.rowRd 0 rfl | exact hs.rowRd 1 rfl | exact hs.rowRd 2 rfl | exact hs.rowRd 3 rfl | exact hs.rowRd 4 rfl | exact hs.rowRd 5 rfl | exact hs.rowRd 6 rfl | exact hs.rowRd 7 rfl | exact hs.rowRd 8 rfl | exact hs.rowRd 9 rfl | exact hs.rowRd 10 rfl | exact hs.rowRd 11 rfl | exact hs.rowRd 12 rfl | exact hs.rowRd 13 rfl | exact Rd.st (by assumption) hs)) rfl rfl ?_
          refine S_mv rfl rfl rfl ?_
          refine S_val rfl rfl (Y_extract rfl rfl) ?_
          refine S_val rfl rfl (Y_extract rfl rfl) ?_
          refine S_as rfl rfl rfl ?_
          refine S_as rfl rfl rfl ?_
          refine S_nx ?_
          refine T_sr ?_
          refine S_mv rfl rfl rfl ?_
          refine S_callV rfl rfl (bod rfl) (fun w hs => l2 _ (by first | exact hs.rowRd 0 rfl | exact hs.rowRd 1 rfl | exact hs.rowRd 2 rfl | exact hs.rowRd 3 rfl | exact hs.rowRd 4 rfl | exact hs.rowRd 5 rfl | exact hs.rowRd 6 rfl | exact hs.rowRd 7 rfl | exact hs.rowRd 8 rfl | exact hs.rowRd 9 rfl | exact hs.rowRd 10 rfl | exact hs.rowRd 11 rfl | exact hs.rowRd 12 rfl | exact hs.rowRd 13 rfl | exact Rd.st (by assumption) hs)) rfl rfl ?_
          refine S_mv rfl rfl rfl ?_
          refine S_val rfl rfl (Y_extract rfl rfl) ?_
          refine S_val rfl rfl (Y_extract rfl rfl) ?_
          refine S_as rfl rfl rfl ?_
          refine S_as rfl rfl rfl ?_
          refine S_nx ?_
          refine T_sr ?_
          refine S_sliceR (und rfl) (siz rfl) (zer rfl) rfl rfl rfl rfl fun _ => ?_
          refine S_as rfl rfl rfl ?_
          refine S_nx ?_
          refine T_seq ?_
          refine T_sr ?_
          refine S_mv rfl rfl rfl ?_
          refine S_mv rfl rfl rfl ?_
          refine S_mv rfl rfl rfl ?_
          refine S_val rfl rfl (Y_pick_t rfl rfl) ?_
          refine S_mv rfl rfl rfl ?_
          refine S_mv rfl rfl rfl ?_
          refine S_val rfl rfl (Y_eql_f rfl rfl (by omega)) ?_
          refine S_val rfl rfl (Y_pick_t rfl rfl) ?_
          refine S_mv rfl rfl rfl ?_
          refine S_skip rfl rfl ?_
          refine S_skip rfl rfl ?_
          refine S_val rfl rfl (Y_pick_f rfl rfl) ?_
          refine S_nx ?_
          refine T_cond_false rfl ?_
          refine T_skip ?_
          refine X_seq ?_
          refine T_seq ?_
          refine T_sr ?_
          refine S_mv rfl rfl rfl ?_
          refine S_val rfl rfl (Y_not rfl rfl) ?_
          refine S_mv rfl rfl rfl ?_
          refine S_mv rfl rfl rfl ?_
          refine S_val rfl rfl (Y_not rfl rfl) ?_
          refine S_val rfl rfl (Y_pick_f rfl rfl) ?_
          refine S_mv rfl rfl rfl ?_
          refine S_mv rfl rfl rfl ?_
          refine S_val rfl rfl (Y_not rfl rfl) ?_
          refine S_val rfl rfl (Y_pick_f rfl rfl) ?_
          refine S_mv rfl rfl rfl ?_
          refine S_mv rfl rfl rfl ?_
          refine S_val rfl rfl (Y_gtr_f rfl rfl (by omega)) ?_
          refine S_val rfl rfl (Y_pick_f rfl rfl) ?_
          refine S_mv rfl rfl rfl ?_
          refine S_mv rfl rfl rfl ?_
          refine S_val rfl rfl (Y_gtr_f rfl rfl (by omega)) ?_
          refine S_val rfl rfl (Y_pick_f rfl rfl) ?_
          refine S_mv rfl rfl rfl ?_
          refine S_mv rfl rfl rfl ?_
          refine S_val rfl rfl (Y_gtr_t rfl rfl (by omega)) ?_
          refine S_val rfl rfl (Y_pick_f rfl rfl) ?_
          refine S_nx ?_
          refine T_cond_true rfl ?_
          refine T_sr ?_
          refine S_mv rfl rfl rfl ?_
          refine S_as rfl rfl rfl ?_
          refine S_as rfl rfl rfl ?_
          refine S_nx ?_
          refine T_ret ?_
          refine X_seq_ret ?_
          ((first | refine X_fin_ret ?_ | refine X_fin ?_); exact ⟨[_, _], [_], .cons (.tmp rfl) (.cons (.tmp rfl) .nil), Emb.one 0 rfl, ⟨_, rfl, rfl⟩⟩)
theorem power16_pow (n x : Nat) (hx : x < 256 ^ n) (hn : n ≤ 1000000) (v : Value) (w : World) (hr : Rd w v .u8 (bel n x)) (h : ¬ (lenN n x 0 = 0 ∧ lenN n x 2 = 0)) (hb : lenN n x 0 ≤ 64) (he : lenN n x 1 ≤ 64) (hm : lenN n x 2 ≤ 64) : Fn Tryd.prog 16 #[v] w fun r N => ∃ u, r = .tuple #[u, .bool true] ∧ N = [row .u8 (bel (lenN n x 2) (runN n x)) u] := by
  have l0 := fun w h => rlength_any n x 0 hx hn (by omega) v w h
  have l1 := fun w h => rlength_any n x 1 hx hn (by omega) v w h
  have l2 := fun w h => rlength_any n x 2 hx hn (by omega) v w h
  rw [if_pos (by omega), decide_eq_true (by omega)] at l0 l1 l2
  have hrd : runN n x = powN (inN n x 96 (lenN n x 0)) (inN n x (96 + lenN n x 0) (lenN n x 1)) (inN n x (96 + lenN n x 0 + lenN n x 1) (lenN n x 2)) := rfl
  have p0 := fun w h => rpart_any n x 96 (lenN n x 0) hx hn (by omega) (by omega) v w h
  have p1 := fun w h => rpart_any n x (96 + lenN n x 0) (lenN n x 1) hx hn (by omega) (by omega) v w h
  have p2 := fun w h => rpart_any n x (96 + lenN n x 0 + lenN n x 1) (lenN n x 2) hx hn (by omega) (by omega) v w h
  simp only [inN_bel] at p0 p1 p2
  have k0 := inN_lt n x 96 (lenN n x 0)
  have k1 := inN_lt n x (96 + lenN n x 0) (lenN n x 1)
  have k2 := inN_lt n x (96 + lenN n x 0 + lenN n x 1) (lenN n x 2)
  have pw : ∀ v0 v1 v2 w, Rd w v0 .u8 (bel (lenN n x 0) (inN n x 96 (lenN n x 0))) → Rd w v1 .u8 (bel (lenN n x 1) (inN n x (96 + lenN n x 0) (lenN n x 1))) → Rd w v2 .u8 (bel (lenN n x 2) (inN n x (96 + lenN n x 0 + lenN n x 1) (lenN n x 2))) → Fn Tryd.prog 29 #[v0, v1, v2] w fun u N => N = [row .u8 (bel (lenN n x 2) (runN n x)) u] :=
    fun v0 v1 v2 w h0 h1 h2 => r9pow_any _ _ _ _ _ _ k0 k1 k2 (by omega) (by omega) (by omega) v0 v1 v2 w h0 h1 h2
  clear hrd k0 k1 k2
  generalize runN n x = z at *
  generalize inN n x 96 (lenN n x 0) = B at *
  generalize inN n x (96 + lenN n x 0) (lenN n x 1) = X at *
  generalize inN n x (96 + lenN n x 0 + lenN n x 1) (lenN n x 2) = M at *
  generalize lenN n x 0 = b at *
  generalize lenN n x 1 = e at *
  generalize lenN n x 2 = m at *
  have hb2 : ¬ 64 < b := by omega
  have he2 : ¬ 64 < e := by omega
  have hm2 : ¬ 64 < m := by omega
  by_cases h0 : b = 0
  · subst h0
    have h2 : ¬ m = 0 := fun e => h ⟨rfl, e⟩
    clear h hx
    refine Fn_of (args := [v]) Tryd.func16 rfl Tryd.ntmps16 Tryd.results16 (by simp) ?_
    refine T_sr ?_
    refine S_as rfl rfl rfl ?_
    refine S_as rfl rfl rfl ?_
    refine S_nx ?_
    refine T_sr ?_
    refine S_mv rfl rfl rfl ?_
    refine S_callV rfl rfl (bod rfl) (fun w hs => l0 _ (by first | exact hs.rowRd 0 rfl | exact hs.rowRd 1 rfl | exact hs.rowRd 2 rfl | exact hs.rowRd 3 rfl | exact hs.rowRd 4 rfl | exact hs.rowRd 5 rfl | exact hs.rowRd 6 rfl | exact hs.rowRd 7 rfl | exact hs.rowRd 8 rfl | exact hs.rowRd 9 rfl | exact hs.rowRd 10 rfl | exact hs.rowRd 11 rfl | exact hs.rowRd 12 rfl | exact hs.rowRd 13 rfl | exact Rd.st (by assumption) hs)) rfl rfl ?_
    refine S_mv rfl rfl rfl ?_
    refine S_val rfl rfl (Y_extract rfl rfl) ?_
    refine S_val rfl rfl (Y_extract rfl rfl) ?_
    refine S_as rfl rfl rfl ?_
    refine S_as rfl rfl rfl ?_
    refine S_nx ?_
    refine T_sr ?_
    refine S_mv rfl rfl rfl ?_
    refine S_callV rfl rfl (bod rfl) (fun w hs => l1 _ (by first | exact hs.rowRd 0 rfl | exact hs.rowRd 1 rfl | exact hs.rowRd 2 rfl | exact hs.rowRd 3 rfl | exact hs.rowRd 4 rfl | exact hs.rowRd 5 rfl | exact hs.rowRd 6 rfl | exact hs.rowRd 7 rfl | exact hs.rowRd 8 rfl | exact hs.rowRd 9 rfl | exact hs.rowRd 10 rfl | exact hs.rowRd 11 rfl | exact hs.rowRd 12 rfl | exact hs.rowRd 13 rfl | exact Rd.st (by assumption) hs)) rfl rfl ?_
    refine S_mv rfl rfl rfl ?_
    refine S_val rfl rfl (Y_extract rfl rfl) ?_
    refine S_val rfl rfl (Y_extract rfl rfl) ?_
    refine S_as rfl rfl rfl ?_
    refine S_as rfl rfl rfl ?_
    refine S_nx ?_
    refine T_sr ?_
    refine S_mv rfl rfl rfl ?_
    refine S_callV rfl rfl (bod rfl) (fun w hs => l2 _ (by first | exact hs.rowRd 0 rfl | exact hs.rowRd 1 rfl | exact hs.rowRd 2 rfl | exact hs.rowRd 3 rfl | exact hs.rowRd 4 rfl | exact hs.rowRd 5 rfl | exact hs.rowRd 6 rfl | exact hs.rowRd 7 rfl | exact hs.rowRd 8 rfl | exact hs.rowRd 9 rfl | exact hs.rowRd 10 rfl | exact hs.rowRd 11 rfl | exact hs.rowRd 12 rfl | exact hs.rowRd 13 rfl | exact Rd.st (by assumption) hs)) rfl rfl ?_
    refine S_mv rfl rfl rfl ?_
    refine S_val rfl rfl (Y_extract rfl rfl) ?_
    refine S_val rfl rfl (Y_extract rfl rfl) ?_
    refine S_as rfl rfl rfl ?_
    refine S_as rfl rfl rfl ?_
    refine S_nx ?_
    refine T_sr ?_
    refine S_sliceR (und rfl) (siz rfl) (zer rfl) rfl rfl rfl rfl fun _ => ?_
    refine S_as rfl rfl rfl ?_
    refine S_nx ?_
    refine T_seq ?_
    refine T_sr ?_
    refine S_mv rfl rfl rfl ?_
    refine S_mv rfl rfl rfl ?_
    refine S_mv rfl rfl rfl ?_
    refine S_val rfl rfl (Y_pick_t rfl rfl) ?_
    refine S_mv rfl rfl rfl ?_
    refine S_mv rfl rfl rfl ?_
    refine S_val rfl rfl (Y_eql_t rfl rfl (by decide)) ?_
    refine S_val rfl rfl (Y_pick_t rfl rfl) ?_
    refine S_mv rfl rfl rfl ?_
    refine S_mv rfl rfl rfl ?_
    refine S_val rfl rfl (Y_eql_f rfl rfl (by omega)) ?_
    refine S_val rfl rfl (Y_pick_t rfl rfl) ?_
    refine S_nx ?_
    refine T_cond_false rfl ?_
    refine T_skip ?_
    refine X_seq ?_
    refine T_seq ?_
    refine T_sr ?_
    refine S_mv rfl rfl rfl ?_
    refine S_val rfl rfl (Y_not rfl rfl) ?_
    refine S_mv rfl rfl rfl ?_
    refine S_mv rfl rfl rfl ?_
    refine S_val rfl rfl (Y_not rfl rfl) ?_
    refine S_val rfl rfl (Y_pick_f rfl rfl) ?_
    refine S_mv rfl rfl rfl ?_
    refine S_mv rfl rfl rfl ?_
    refine S_val rfl rfl (Y_not rfl rfl) ?_
    refine S_val rfl rfl (Y_pick_f rfl rfl) ?_
    refine S_mv rfl rfl rfl ?_
    refine S_mv rfl rfl rfl ?_
    refine S_val rfl rfl (Y_gtr_f rfl rfl (by decide)) ?_
    refine S_val rfl rfl (Y_pick_f rfl rfl) ?_
    refine S_mv rfl rfl rfl ?_
    refine S_mv rfl rfl rfl ?_
    refine S_val rfl rfl (Y_gtr_f rfl rfl (by omega)) ?_
    refine S_val rfl rfl (Y_pick_f rfl rfl) ?_
    refine S_mv rfl rfl rfl ?_
    refine S_mv rfl rfl rfl ?_
    refine S_val rfl rfl (Y_gtr_f rfl rfl (by omega)) ?_
    refine S_val rfl rfl (Y_pick_f rfl rfl) ?_
    refine S_nx ?_
    refine T_cond_false rfl ?_
    refine T_skip ?_
    refine X_seq ?_
    refine T_sr ?_
    refine S_mv rfl rfl rfl ?_
    refine S_val rfl rfl (Y_conv (und rfl) (und rfl) rfl (wi64 (by omega) (by omega))) ?_
    refine S_as rfl rfl rfl ?_
    refine S_nx ?_
    refine T_sr ?_
    refine S_mv rfl rfl rfl ?_
    refine S_val rfl rfl (Y_conv (und rfl) (und rfl) rfl (wi64 (by omega) (by omega))) ?_
    refine S_as rfl rfl rfl ?_
    refine S_nx ?_
    refine T_sr ?_
    refine S_mv rfl rfl rfl ?_
    refine S_mv rfl rfl rfl ?_
    refine S_callR _ rfl rfl (bod rfl) (fun w hs => p0 _ (by first | exact hs.rowRd 0 rfl | exact hs.rowRd 1 rfl | exact hs.rowRd 2 rfl | exact hs.rowRd 3 rfl | exact hs.rowRd 4 rfl | exact hs.rowRd 5 rfl | exact hs.rowRd 6 rfl | exact hs.rowRd 7 rfl | exact hs.rowRd 8 rfl | exact hs.rowRd 9 rfl | exact hs.rowRd 10 rfl | exact hs.rowRd 11 rfl | exact hs.rowRd 12 rfl | exact hs.rowRd 13 rfl | exact Rd.st (by assumption) hs)) rfl rfl fun _ => ?_
    refine S_mv rfl rfl rfl ?_
    refine S_mv rfl rfl rfl ?_
    refine S_val rfl rfl (Y_addN rfl rfl (nat_lit' _) (nat_cast _) (Nat.le_of_ble_eq_true rfl)) ?_
    refine S_mv rfl rfl rfl ?_
    refine S_callR _ rfl rfl (bod rfl) (fun w hs => p1 _ (by first | exact hs.rowRd 0 rfl | exact hs.rowRd 1 rfl | exact hs.rowRd 2 rfl | exact hs.rowRd 3 rfl | exact hs.rowRd 4 rfl | exact hs.rowRd 5 rfl | exact hs.rowRd 6 rfl | exact hs.rowRd 7 rfl | exact hs.rowRd 8 rfl | exact hs.rowRd 9 rfl | exact hs.rowRd 10 rfl | exact hs.rowRd 11 rfl | exact hs.rowRd 12 rfl | exact hs.rowRd 13 rfl | exact Rd.st (by assumption) hs)) rfl rfl fun _ => ?_
    refine S_mv rfl rfl rfl ?_
    refine S_mv rfl rfl rfl ?_
    refine S_val rfl rfl (Y_addN rfl rfl (nat_lit' _) (nat_cast _) (Nat.le_of_ble_eq_true rfl)) ?_
    refine S_mv rfl rfl rfl ?_
    refine S_val rfl rfl (Y_addN rfl rfl (nat_cast _) (nat_cast _) (by omega)) ?_
    refine S_mv rfl rfl rfl ?_
    refine S_val rfl rfl (Y_conv (und rfl) (und rfl) rfl (wi64 (by omega) (by omega))) ?_
    refine S_callR _ rfl rfl (bod rfl) (fun w hs => p2 _ (by first | exact hs.rowRd 0 rfl | exact hs.rowRd 1 rfl | exact hs.rowRd 2 rfl | exact hs.rowRd 3 rfl | exact hs.rowRd 4 rfl | exact hs.rowRd 5 rfl | exact hs.rowRd 6 rfl | exact hs.rowRd 7 rfl | exact hs.rowRd 8 rfl | exact hs.rowRd 9 rfl | exact hs.rowRd 10 rfl | exact hs.rowRd 11 rfl | exact hs.rowRd 12 rfl | exact hs.rowRd 13 rfl | exact Rd.st (by assumption) hs)) rfl rfl fun _ => ?_
    skip
    refine S_callR _ rfl rfl (bod rfl) (fun w hs => pw _ _ _ _ (hs.rowRd 1 rfl) (hs.rowRd 2 rfl) (hs.rowRd 3 rfl)) rfl rfl fun _ => ?_
    refine S_as rfl rfl rfl ?_
    refine S_as rfl rfl rfl ?_
    refine S_nx ?_
    refine T_ret ?_
    ((first | refine X_fin_ret ?_ | refine X_fin ?_); exact ⟨[_, _], [_], .cons (.tmp rfl) (.cons (.tmp rfl) .nil), Emb.one 4 rfl, ⟨_, rfl, rfl⟩⟩)
  · clear h hx
    refine Fn_of (args := [v]) Tryd.func16 rfl Tryd.ntmps16 Tryd.results16 (by simp) ?_
    refine T_sr ?_
    refine S_as rfl rfl rfl ?_
    refine S_as rfl rfl rfl ?_
    refine S_nx ?_
    refine T_sr ?_
    refine S_mv rfl rfl rfl ?_
    refine S_callV rfl rfl (bod rfl) (fun w hs => l0 _ (by first | exact hs.rowRd 0 rfl | exact hs.rowRd 1 rfl | exact hs.rowRd 2 rfl | exact hs.rowRd 3 rfl | exact hs.rowRd 4 rfl | exact hs.rowRd 5 rfl | exact hs.rowRd 6 rfl | exact hs.rowRd 7 rfl | exact hs.rowRd 8 rfl | exact hs.rowRd 9 rfl | exact hs.rowRd 10 rfl | exact hs.rowRd 11 rfl | exact hs.rowRd 12 rfl | exact hs.rowRd 13 rfl | exact Rd.st (by assumption) hs)) rfl rfl ?_
    refine S_mv rfl rfl rfl ?_
    refine S_val rfl rfl (Y_extract rfl rfl) ?_
    refine S_val rfl rfl (Y_extract rfl rfl) ?_
    refine S_as rfl rfl rfl ?_
    refine S_as rfl rfl rfl ?_
    refine S_nx ?_
    refine T_sr ?_
    refine S_mv rfl rfl rfl ?_
    refine S_callV rfl rfl (bod rfl) (fun w hs => l1 _ (by first | exact hs.rowRd 0 rfl | exact hs.rowRd 1 rfl | exact hs.rowRd 2 rfl | exact hs.rowRd 3 rfl | exact hs.rowRd 4 rfl | exact hs.rowRd 5 rfl | exact hs.rowRd 6 rfl | exact hs.rowRd 7 rfl | exact hs.rowRd 8 rfl | exact hs.rowRd 9 rfl | exact hs.rowRd 10 rfl | exact hs.rowRd 11 rfl | exact hs.rowRd 12 rfl | exact hs.rowRd 13 rfl | exact Rd.st (by assumption) hs)) rfl rfl ?_
    refine S_mv rfl rfl rfl ?_
    refine S_val rfl rfl (Y_extract rfl rfl) ?_
    refine S_val rfl rfl (Y_extract rfl rfl) ?_
    refine S_as rfl rfl rfl ?_
    refine S_as rfl rfl rfl ?_
    refine S_nx ?_
    refine T_sr ?_
    refine S_mv rfl rfl rfl ?_
    refine S_callV rfl rfl (bod rfl) (fun w hs => l2 _ (by first | exact hs.rowRd 0 rfl | exact hs.rowRd 1 rfl | exact hs.rowRd 2 rfl | exact hs.rowRd 3 rfl | exact hs.rowRd 4 rfl | exact hs.rowRd 5 rfl | exact hs.rowRd 6 rfl | exact hs.rowRd 7 rfl | exact hs.rowRd 8 rfl | exact hs.rowRd 9 rfl | exact hs.rowRd 10 rfl | exact hs.rowRd 11 rfl | exact hs.rowRd 12 rfl | exact hs.rowRd 13 rfl | exact Rd.st (by assumption) hs)) rfl rfl ?_
    refine S_mv rfl rfl rfl ?_
    refine S_val rfl rfl (Y_extract rfl rfl) ?_
    refine S_val rfl rfl (Y_extract rfl rfl) ?_
    refine S_as rfl rfl rfl ?_
    refine S_as rfl rfl rfl ?_
    refine S_nx ?_
    refine T_sr ?_
    refine S_sliceR (und rfl) (siz rfl) (zer rfl) rfl rfl rfl rfl fun _ => ?_
    refine S_as rfl rfl rfl ?_
    refine S_nx ?_
    refine T_seq ?_
    refine T_sr ?_
    refine S_mv rfl rfl rfl ?_
    refine S_mv rfl rfl rfl ?_
    refine S_mv rfl rfl rfl ?_
    refine S_val rfl rfl (Y_pick_t rfl rfl) ?_
    refine S_mv rfl rfl rfl ?_
    refine S_mv rfl rfl rfl ?_
    refine S_val rfl rfl (Y_eql_f rfl rfl (by omega)) ?_
    refine S_val rfl rfl (Y_pick_t rfl rfl) ?_
    refine S_mv rfl rfl rfl ?_
    refine S_skip rfl rfl ?_
    refine S_skip rfl rfl ?_
    refine S_val rfl rfl (Y_pick_f rfl rfl) ?_
    refine S_nx ?_
    refine T_cond_false rfl ?_
    refine T_skip ?_
    refine X_seq ?_
    refine T_seq ?_
    refine T_sr ?_
    refine S_mv rfl rfl rfl ?_
    refine S_val rfl rfl (Y_not rfl rfl) ?_
    refine S_mv rfl rfl rfl ?_
    refine S_mv rfl rfl rfl ?_
    refine S_val rfl rfl (Y_not rfl rfl) ?_
    refine S_val rfl rfl (Y_pick_f rfl rfl) ?_
    refine S_mv rfl rfl rfl ?_
    refine S_mv rfl rfl rfl ?_
    refine S_val rfl rfl (Y_not rfl rfl) ?_
    refine S_val rfl rfl (Y_pick_f rfl rfl) ?_
    refine S_mv rfl rfl rfl ?_
    refine S_mv rfl rfl rfl ?_
    refine S_val rfl rfl (Y_gtr_f rfl rfl (by omega)) ?_
    refine S_val rfl rfl (Y_pick_f rfl rfl) ?_
    refine S_mv rfl rfl rfl ?_
    refine S_mv rfl rfl rfl ?_
    refine S_val rfl rfl (Y_gtr_f rfl rfl (by omega)) ?_
    refine S_val rfl rfl (Y_pick_f rfl rfl) ?_
    refine S_mv rfl rfl rfl ?_
    refine S_mv rfl rfl rfl ?_
    refine S_val rfl rfl (Y_gtr_f rfl rfl (by omega)) ?_
    refine S_val rfl rfl (Y_pick_f rfl rfl) ?_
    refine S_nx ?_
    refine T_cond_false rfl ?_
    refine T_skip ?_
    refine X_seq ?_
    refine T_sr ?_
    refine S_mv rfl rfl rfl ?_
    refine S_val rfl rfl (Y_conv (und rfl) (und rfl) rfl (wi64 (by omega) (by omega))) ?_
    refine S_as rfl rfl rfl ?_
    refine S_nx ?_
    refine T_sr ?_
    refine S_mv rfl rfl rfl ?_
    refine S_val rfl rfl (Y_conv (und rfl) (und rfl) rfl (wi64 (by omega) (by omega))) ?_
    refine S_as rfl rfl rfl ?_
    refine S_nx ?_
    refine T_sr ?_
    refine S_mv rfl rfl rfl ?_
    refine S_mv rfl rfl rfl ?_
    refine S_callR _ rfl rfl (bod rfl) (fun w hs => p0 _ (by first | exact hs.rowRd 0 rfl | exact hs.rowRd 1 rfl | exact hs.rowRd 2 rfl | exact hs.rowRd 3 rfl | exact hs.rowRd 4 rfl | exact hs.rowRd 5 rfl | exact hs.rowRd 6 rfl | exact hs.rowRd 7 rfl | exact hs.rowRd 8 rfl | exact hs.rowRd 9 rfl | exact hs.rowRd 10 rfl | exact hs.rowRd 11 rfl | exact hs.rowRd 12 rfl | exact hs.rowRd 13 rfl | exact Rd.st (by assumption) hs)) rfl rfl fun _ => ?_
    refine S_mv rfl rfl rfl ?_
    refine S_mv rfl rfl rfl ?_
    refine S_val rfl rfl (Y_addN rfl rfl (nat_lit' _) (nat_cast _) (by omega)) ?_
    refine S_mv rfl rfl rfl ?_
    refine S_callR _ rfl rfl (bod rfl) (fun w hs => p1 _ (by first | exact hs.rowRd 0 rfl | exact hs.rowRd 1 rfl | exact hs.rowRd 2 rfl | exact hs.rowRd 3 rfl | exact hs.rowRd 4 rfl | exact hs.rowRd 5 rfl | exact hs.rowRd 6 rfl | exact hs.rowRd 7 rfl | exact hs.rowRd 8 rfl | exact hs.rowRd 9 rfl | exact hs.rowRd 10 rfl | exact hs.rowRd 11 rfl | exact hs.rowRd 12 rfl | exact hs.rowRd 13 rfl | exact Rd.st (by assumption) hs)) rfl rfl fun _ => ?_
    refine S_mv rfl rfl rfl ?_
    refine S_mv rfl rfl rfl ?_
    refine S_val rfl rfl (Y_addN rfl rfl (nat_lit' _) (nat_cast _) (by omega)) ?_
    refine S_mv rfl rfl rfl ?_
    refine S_val rfl rfl (Y_addN rfl rfl (nat_cast _) (nat_cast _) (by omega)) ?_
    refine S_mv rfl rfl rfl ?_
    refine S_val rfl rfl (Y_conv (und rfl) (und rfl) rfl (wi64 (by omega) (by omega))) ?_
    refine S_callR _ rfl rfl (bod rfl) (fun w hs => p2 _ (by first | exact hs.rowRd 0 rfl | exact hs.rowRd 1 rfl | exact hs.rowRd 2 rfl | exact hs.rowRd 3 rfl | exact hs.rowRd 4 rfl | exact hs.rowRd 5 rfl | exact hs.rowRd 6 rfl | exact hs.rowRd 7 rfl | exact hs.rowRd 8 rfl | exact hs.rowRd 9 rfl | exact hs.rowRd 10 rfl | exact hs.rowRd 11 rfl | exact hs.rowRd 12 rfl | exact hs.rowRd 13 rfl | exact Rd.st (by assumption) hs)) rfl rfl fun _ => ?_
    skip
    refine S_callR _ rfl rfl (bod rfl) (fun w hs => pw _ _ _ _ (hs.rowRd 1 rfl) (hs.rowRd 2 rfl) (hs.rowRd 3 rfl)) rfl rfl fun _ => ?_
    refine S_as rfl rfl rfl ?_
    refine S_as rfl rfl rfl ?_
    refine S_nx ?_
    refine T_ret ?_
    ((first | refine X_fin_ret ?_ | refine X_fin ?_); exact ⟨[_, _], [_], .cons (.tmp rfl) (.cons (.tmp rfl) .nil), Emb.one 4 rfl, ⟨_, rfl, rfl⟩⟩)
end Go.Proofs.YtjolmphkmfbpbaaDoor
/- The reference of layer 16: Run; prec.Has; prec.Run of a power, case by case. -/
namespace Go.Proofs.YtjolmphkmfbpbaaDoor
open Go.RowKit
set_option maxRecDepth 20000
set_option maxHeartbeats 40000000
theorem rrun_low (q : Int) (n x p gas : Nat) (hp : priceN q n x = p) (hx : x < 256 ^ n) (hn : n ≤ 1000000) (hpl : p < 18446744073709551616) (hg : gas < p) (v : Value) (w : World) (hr : Rd w v .u8 (bel n x)) : Fn Tryd.prog 7 #[.int .i64 q, v, .int .u64 gas] w fun r N => ∃ u, r = .tuple #[u, .int .u64 ((0 : Nat) : Int), .bool false] ∧ N = [row .u8 [] u] := by
  have pr := fun w h => rprice_any q n x hx hn v w h
  rw [hp] at pr
  clear hp hx
  refine Fn_of (args := [.int .i64 q, v, .int .u64 gas]) Tryd.func7 rfl Tryd.ntmps7 Tryd.results7 (by simp) ?_
  refine T_sr ?_
  refine S_as rfl rfl rfl ?_
  refine S_as rfl rfl rfl ?_
  refine S_as rfl rfl rfl ?_
  refine S_nx ?_
  refine T_sr ?_
  refine S_sliceR (und rfl) (siz rfl) (zer rfl) rfl rfl rfl rfl fun _ => ?_
  refine S_as rfl rfl rfl ?_
  refine S_nx ?_
  refine T_sr ?_
  refine S_mv rfl rfl rfl ?_
  refine S_mv rfl rfl rfl ?_
  refine S_callV rfl rfl (bod rfl) (fun w hs => pr _ (by first | exact hs.rowRd 0 rfl | exact hs.rowRd 1 rfl | exact hs.rowRd 2 rfl | exact hs.rowRd 3 rfl | exact hs.rowRd 4 rfl | exact hs.rowRd 5 rfl | exact hs.rowRd 6 rfl | exact hs.rowRd 7 rfl | exact hs.rowRd 8 rfl | exact hs.rowRd 9 rfl | exact hs.rowRd 10 rfl | exact hs.rowRd 11 rfl | exact hs.rowRd 12 rfl | exact hs.rowRd 13 rfl | exact Rd.st (by assumption) hs)) rfl rfl ?_
  refine S_as rfl rfl rfl ?_
  refine S_nx ?_
  refine T_seq ?_
  refine T_sr ?_
  refine S_mv rfl rfl rfl ?_
  refine S_mv rfl rfl rfl ?_
  refine S_val rfl rfl (Y_lss_t rfl rfl (by omega)) ?_
  refine S_nx ?_
  refine T_cond_true rfl ?_
  refine T_sr ?_
  refine S_mv rfl rfl rfl ?_
  refine S_as rfl rfl rfl ?_
  refine S_as rfl rfl rfl ?_
  refine S_as rfl rfl rfl ?_
  refine S_nx ?_
  refine T_ret ?_
  refine X_seq_ret ?_
  ((first | refine X_fin_ret ?_ | refine X_fin ?_); exact ⟨[_, _, _], [_], .cons (.tmp rfl) (.cons (.tmp rfl) (.cons (.tmp rfl) .nil)), Emb.one 0 rfl, ⟨_, rfl, rfl⟩⟩)
theorem rrun_none (q : Int) (n x gas : Nat) (h : q ≠ 2 ∧ q ≠ 4 ∧ q ≠ 5) (hx : x < 256 ^ n) (hn : n ≤ 1000000) (hg : gas < 18446744073709551616) (v : Value) (w : World) (hr : Rd w v .u8 (bel n x)) : Fn Tryd.prog 7 #[.int .i64 q, v, .int .u64 gas] w fun r N => ∃ u, r = .tuple #[u, .int .u64 ((gas - 0 : Nat) : Int), .bool true] ∧ N = [row .u8 [] u] := by
  have pr := fun w h => rprice_any q n x hx hn v w h
  obtain ⟨h2, h4, h5⟩ := h
  rw [show priceN q n x = 0 by unfold priceN; rw [if_neg h2, if_neg h4, if_neg h5]] at pr
  clear hx
  refine Fn_of (args := [.int .i64 q, v, .int .u64 gas]) Tryd.func7 rfl Tryd.ntmps7 Tryd.results7 (by simp) ?_
  refine T_sr ?_
  refine S_as rfl rfl rfl ?_
  refine S_as rfl rfl rfl ?_
  refine S_as rfl rfl rfl ?_
  refine S_nx ?_
  refine T_sr ?_
  refine S_sliceR (und rfl) (siz rfl) (zer rfl) rfl rfl rfl rfl fun _ => ?_
  refine S_as rfl rfl rfl ?_
  refine S_nx ?_
  refine T_sr ?_
  refine S_mv rfl rfl rfl ?_
  refine S_mv rfl rfl rfl ?_
  refine S_callV rfl rfl (bod rfl) (fun w hs => pr _ (by first | exact hs.rowRd 0 rfl | exact hs.rowRd 1 rfl | exact hs.rowRd 2 rfl | exact hs.rowRd 3 rfl | exact hs.rowRd 4 rfl | exact hs.rowRd 5 rfl | exact hs.rowRd 6 rfl | exact hs.rowRd 7 rfl | exact hs.rowRd 8 rfl | exact hs.rowRd 9 rfl | exact hs.rowRd 10 rfl | exact hs.rowRd 11 rfl | exact hs.rowRd 12 rfl | exact hs.rowRd 13 rfl | exact Rd.st (by assumption) hs)) rfl rfl ?_
  refine S_as rfl rfl rfl ?_
  refine S_nx ?_
  refine T_seq ?_
  refine T_sr ?_
  refine S_mv rfl rfl rfl ?_
  refine S_mv rfl rfl rfl ?_
  refine S_val rfl rfl (Y_lss_f rfl rfl (by omega)) ?_
  refine S_nx ?_
  refine T_cond_false rfl ?_
  refine T_skip ?_
  refine X_seq ?_
  refine T_seq ?_
  refine T_sr ?_
  refine S_mv rfl rfl rfl ?_
  refine S_nx ?_
  refine T_block ?_
  refine T_sr ?_
  refine S_val rfl rfl (Y_eql_f rfl rfl (by assumption)) ?_
  refine S_as rfl rfl rfl ?_
  refine S_nx ?_
  refine T_cond_false rfl ?_
  refine T_sr ?_
  refine S_val rfl rfl (Y_eql_f rfl rfl (by assumption)) ?_
  refine S_as rfl rfl rfl ?_
  refine S_nx ?_
  refine T_cond_false rfl ?_
  refine T_sr ?_
  refine S_val rfl rfl (Y_eql_f rfl rfl (by assumption)) ?_
  refine S_as rfl rfl rfl ?_
  refine S_nx ?_
  refine T_cond_false rfl ?_
  refine T_skip ?_
  refine X_blk ?_
  refine X_seq ?_
  refine T_sr ?_
  refine S_mv rfl rfl rfl ?_
  refine S_mv rfl rfl rfl ?_
  refine S_mv rfl rfl rfl ?_
  refine S_val rfl rfl (Y_subU rfl rfl (nat_cast _) (nat_cast _) rfl (Nat.le_of_ble_eq_true rfl) (by simp only [IntKind.bits]; assumption)) ?_
  refine S_as rfl rfl rfl ?_
  refine S_as rfl rfl rfl ?_
  refine S_as rfl rfl rfl ?_
  refine S_nx ?_
  refine T_ret ?_
  ((first | refine X_fin_ret ?_ | refine X_fin ?_); exact ⟨[_, _, _], [_], .cons (.tmp rfl) (.cons (.tmp rfl) (.cons (.tmp rfl) .nil)), Emb.one 0 rfl, ⟨_, rfl, rfl⟩⟩)
theorem rrun_4 (n x p gas : Nat) (hp : priceN 4 n x = p) (hx : x < 256 ^ n) (hn : n ≤ 1000000) (hgl : gas < 18446744073709551616) (hg : p ≤ gas) (v : Value) (w : World) (hr : Rd w v .u8 (bel n x)) : Fn Tryd.prog 7 #[.int .i64 4, v, .int .u64 gas] w fun r N => r = .tuple #[v, .int .u64 ((gas - p : Nat) : Int), .bool true] ∧ N = [] := by
  have pr := fun w h => rprice_any 4 n x hx hn v w h
  rw [hp] at pr
  clear hp hx
  refine Fn_of (args := [.int .i64 4, v, .int .u64 gas]) Tryd.func7 rfl Tryd.ntmps7 Tryd.results7 (by simp) ?_
  refine T_sr ?_
  refine S_as rfl rfl rfl ?_
  refine S_as rfl rfl rfl ?_
  refine S_as rfl rfl rfl ?_
  refine S_nx ?_
  refine T_sr ?_
  refine S_sliceR (und rfl) (siz rfl) (zer rfl) rfl rfl rfl rfl fun _ => ?_
  refine S_as rfl rfl rfl ?_
  refine S_nx ?_
  refine T_sr ?_
  refine S_mv rfl rfl rfl ?_
  refine S_mv rfl rfl rfl ?_
  refine S_callV rfl rfl (bod rfl) (fun w hs => pr _ (by first | exact hs.rowRd 0 rfl | exact hs.rowRd 1 rfl | exact hs.rowRd 2 rfl | exact hs.rowRd 3 rfl | exact hs.rowRd 4 rfl | exact hs.rowRd 5 rfl | exact hs.rowRd 6 rfl | exact hs.rowRd 7 rfl | exact hs.rowRd 8 rfl | exact hs.rowRd 9 rfl | exact hs.rowRd 10 rfl | exact hs.rowRd 11 rfl | exact hs.rowRd 12 rfl | exact hs.rowRd 13 rfl | exact Rd.st (by assumption) hs)) rfl rfl ?_
  refine S_as rfl rfl rfl ?_
  refine S_nx ?_
  refine T_seq ?_
  refine T_sr ?_
  refine S_mv rfl rfl rfl ?_
  refine S_mv rfl rfl rfl ?_
  refine S_val rfl rfl (Y_lss_f rfl rfl (by omega)) ?_
  refine S_nx ?_
  refine T_cond_false rfl ?_
  refine T_skip ?_
  refine X_seq ?_
  refine T_seq ?_
  refine T_sr ?_
  refine S_mv rfl rfl rfl ?_
  refine S_nx ?_
  refine T_block ?_
  refine T_sr ?_
  refine S_val rfl rfl (Y_eql_f rfl rfl (by decide)) ?_
  refine S_as rfl rfl rfl ?_
  refine S_nx ?_
  refine T_cond_false rfl ?_
  refine T_sr ?_
  refine S_val rfl rfl (Y_eql_t rfl rfl (by decide)) ?_
  refine S_as rfl rfl rfl ?_
  refine S_nx ?_
  refine T_cond_true rfl ?_
  refine T_sr ?_
  refine S_mv rfl rfl rfl ?_
  refine S_mv rfl rfl rfl ?_
  refine S_mv rfl rfl rfl ?_
  refine S_val rfl rfl (Y_subU rfl rfl (nat_cast _) (nat_cast _) rfl (by assumption) (by simp only [IntKind.bits]; assumption)) ?_
  refine S_as rfl rfl rfl ?_
  refine S_as rfl rfl rfl ?_
  refine S_as rfl rfl rfl ?_
  refine S_nx ?_
  refine T_ret ?_
  refine X_blk_ret ?_
  refine X_seq_ret ?_
  ((first | refine X_fin_ret ?_ | refine X_fin ?_); exact ⟨[_, _, _], [], .cons (.tmp rfl) (.cons (.tmp rfl) (.cons (.tmp rfl) .nil)), Emb.nil _, rfl, rfl⟩)
theorem rrun_2 (n x p gas : Nat) (bs : List U8) (hbs : bel n x = byl bs) (hbl : bs.length = n) (hp : priceN 2 n x = p) (hx : x < 256 ^ n) (hn : n ≤ 1000000) (hgl : gas < 18446744073709551616) (hg : p ≤ gas) (v : Value) (w : World) (hr : Rd w v .u8 (bel n x)) : Fn Tryd.prog 7 #[.int .i64 2, v, .int .u64 gas] w fun r N => ∃ u, r = .tuple #[u, .int .u64 ((gas - p : Nat) : Int), .bool true] ∧ N = [row .u8 (byl (sumF KL bs)) u] := by
  have pr := fun w h => rprice_any 2 n x hx hn v w h
  rw [hp] at pr
  have sm := fun w hr => hash16_any bs (by omega) v w hr
  rw [← hbs] at sm
  generalize sumF KL bs = Z at *
  clear hp hx hbs
  refine Fn_of (args := [.int .i64 2, v, .int .u64 gas]) Tryd.func7 rfl Tryd.ntmps7 Tryd.results7 (by simp) ?_
  refine T_sr ?_
  refine S_as rfl rfl rfl ?_
  refine S_as rfl rfl rfl ?_
  refine S_as rfl rfl rfl ?_
  refine S_nx ?_
  refine T_sr ?_
  refine S_sliceR (und rfl) (siz rfl) (zer rfl) rfl rfl rfl rfl fun _ => ?_
  refine S_as rfl rfl rfl ?_
  refine S_nx ?_
  refine T_sr ?_
  refine S_mv rfl rfl rfl ?_
  refine S_mv rfl rfl rfl ?_
  refine S_callV rfl rfl (bod rfl) (fun w hs => pr _ (by first | exact hs.rowRd 0 rfl | exact hs.rowRd 1 rfl | exact hs.rowRd 2 rfl | exact hs.rowRd 3 rfl | exact hs.rowRd 4 rfl | exact hs.rowRd 5 rfl | exact hs.rowRd 6 rfl | exact hs.rowRd 7 rfl | exact hs.rowRd 8 rfl | exact hs.rowRd 9 rfl | exact hs.rowRd 10 rfl | exact hs.rowRd 11 rfl | exact hs.rowRd 12 rfl | exact hs.rowRd 13 rfl | exact Rd.st (by assumption) hs)) rfl rfl ?_
  refine S_as rfl rfl rfl ?_
  refine S_nx ?_
  refine T_seq ?_
  refine T_sr ?_
  refine S_mv rfl rfl rfl ?_
  refine S_mv rfl rfl rfl ?_
  refine S_val rfl rfl (Y_lss_f rfl rfl (by omega)) ?_
  refine S_nx ?_
  refine T_cond_false rfl ?_
  refine T_skip ?_
  refine X_seq ?_
  refine T_seq ?_
  refine T_sr ?_
  refine S_mv rfl rfl rfl ?_
  refine S_nx ?_
  refine T_block ?_
  refine T_sr ?_
  refine S_val rfl rfl (Y_eql_t rfl rfl (by decide)) ?_
  refine S_as rfl rfl rfl ?_
  refine S_nx ?_
  refine T_cond_true rfl ?_
  refine T_sr ?_
  refine S_mv rfl rfl rfl ?_
  refine S_callR _ rfl rfl (bod rfl) (fun w hs => sm _ (by first | exact hs.rowRd 0 rfl | exact hs.rowRd 1 rfl | exact hs.rowRd 2 rfl | exact hs.rowRd 3 rfl | exact hs.rowRd 4 rfl | exact hs.rowRd 5 rfl | exact hs.rowRd 6 rfl | exact hs.rowRd 7 rfl | exact hs.rowRd 8 rfl | exact hs.rowRd 9 rfl | exact hs.rowRd 10 rfl | exact hs.rowRd 11 rfl | exact hs.rowRd 12 rfl | exact hs.rowRd 13 rfl | exact Rd.st (by assumption) hs)) rfl rfl fun _ => ?_
  refine S_mv rfl rfl rfl ?_
  refine S_mv rfl rfl rfl ?_
  refine S_val rfl rfl (Y_subU rfl rfl (nat_cast _) (nat_cast _) rfl (by assumption) (by simp only [IntKind.bits]; assumption)) ?_
  refine S_as rfl rfl rfl ?_
  refine S_as rfl rfl rfl ?_
  refine S_as rfl rfl rfl ?_
  refine S_nx ?_
  refine T_ret ?_
  refine X_blk_ret ?_
  refine X_seq_ret ?_
  ((first | refine X_fin_ret ?_ | refine X_fin ?_); exact ⟨[_, _, _], [_], .cons (.tmp rfl) (.cons (.tmp rfl) (.cons (.tmp rfl) .nil)), Emb.one 1 rfl, ⟨_, rfl, rfl⟩⟩)
theorem rrun_5nil (n x p gas : Nat) (hp : priceN 5 n x = p) (hx : x < 256 ^ n) (hn : n ≤ 1000000) (hgl : gas < 18446744073709551616) (hg : p ≤ gas) (v : Value) (w : World) (hr : Rd w v .u8 (bel n x)) (h : lenN n x 0 = 0 ∧ lenN n x 2 = 0) : Fn Tryd.prog 7 #[.int .i64 5, v, .int .u64 gas] w fun r N => ∃ u, r = .tuple #[u, .int .u64 ((gas - p : Nat) : Int), .bool true] ∧ N = [row .u8 [] u] := by
  have pr := fun w h => rprice_any 5 n x hx hn v w h
  rw [hp] at pr
  have pw := fun w hr => power16_nil n x hx hn v w hr h
  clear hp hx h
  refine Fn_of (args := [.int .i64 5, v, .int .u64 gas]) Tryd.func7 rfl Tryd.ntmps7 Tryd.results7 (by simp) ?_
  refine T_sr ?_
  refine S_as rfl rfl rfl ?_
  refine S_as rfl rfl rfl ?_
  refine S_as rfl rfl rfl ?_
  refine S_nx ?_
  refine T_sr ?_
  refine S_sliceR (und rfl) (siz rfl) (zer rfl) rfl rfl rfl rfl fun _ => ?_
  refine S_as rfl rfl rfl ?_
  refine S_nx ?_
  refine T_sr ?_
  refine S_mv rfl rfl rfl ?_
  refine S_mv rfl rfl rfl ?_
  refine S_callV rfl rfl (bod rfl) (fun w hs => pr _ (by first | exact hs.rowRd 0 rfl | exact hs.rowRd 1 rfl | exact hs.rowRd 2 rfl | exact hs.rowRd 3 rfl | exact hs.rowRd 4 rfl | exact hs.rowRd 5 rfl | exact hs.rowRd 6 rfl | exact hs.rowRd 7 rfl | exact hs.rowRd 8 rfl | exact hs.rowRd 9 rfl | exact hs.rowRd 10 rfl | exact hs.rowRd 11 rfl | exact hs.rowRd 12 rfl | exact hs.rowRd 13 rfl | exact Rd.st (by assumption) hs)) rfl rfl ?_
  refine S_as rfl rfl rfl ?_
  refine S_nx ?_
  refine T_seq ?_
  refine T_sr ?_
  refine S_mv rfl rfl rfl ?_
  refine S_mv rfl rfl rfl ?_
  refine S_val rfl rfl (Y_lss_f rfl rfl (by omega)) ?_
  refine S_nx ?_
  refine T_cond_false rfl ?_
  refine T_skip ?_
  refine X_seq ?_
  refine T_seq ?_
  refine T_sr ?_
  refine S_mv rfl rfl rfl ?_
  refine S_nx ?_
  refine T_block ?_
  refine T_sr ?_
  refine S_val rfl rfl (Y_eql_f rfl rfl (by decide)) ?_
  refine S_as rfl rfl rfl ?_
  refine S_nx ?_
  refine T_cond_false rfl ?_
  refine T_sr ?_
  refine S_val rfl rfl (Y_eql_f rfl rfl (by decide)) ?_
  refine S_as rfl rfl rfl ?_
  refine S_nx ?_
  refine T_cond_false rfl ?_
  refine T_sr ?_
  refine S_val rfl rfl (Y_eql_t rfl rfl (by decide)) ?_
  refine S_as rfl rfl rfl ?_
  refine S_nx ?_
  refine T_cond_true rfl ?_
  refine T_sr ?_
  refine S_mv rfl rfl rfl ?_
  refine S_call _ rfl rfl (bod rfl) (fun w hs => pw _ (by first | exact hs.rowRd 0 rfl | exact hs.rowRd 1 rfl | exact hs.rowRd 2 rfl | exact hs.rowRd 3 rfl | exact hs.rowRd 4 rfl | exact hs.rowRd 5 rfl | exact hs.rowRd 6 rfl | exact hs.rowRd 7 rfl | exact hs.rowRd 8 rfl | exact hs.rowRd 9 rfl | exact hs.rowRd 10 rfl | exact hs.rowRd 11 rfl | exact hs.rowRd 12 rfl | exact hs.rowRd 13 rfl | exact Rd.st (by assumption) hs)) rfl rfl ?_
  rintro _ _ ⟨u, rfl, rfl⟩
  refine S_mv rfl rfl rfl ?_
  refine S_val rfl rfl (Y_extract rfl rfl) ?_
  refine S_val rfl rfl (Y_extract rfl rfl) ?_
  refine S_as rfl rfl rfl ?_
  refine S_as rfl rfl rfl ?_
  refine S_nx ?_
  refine T_seq ?_
  refine T_sr ?_
  refine S_mv rfl rfl rfl ?_
  refine S_val rfl rfl (Y_not rfl rfl) ?_
  refine S_nx ?_
  refine T_cond_false rfl ?_
  refine T_skip ?_
  refine X_seq ?_
  refine T_sr ?_
  refine S_mv rfl rfl rfl ?_
  refine S_mv rfl rfl rfl ?_
  refine S_mv rfl rfl rfl ?_
  refine S_val rfl rfl (Y_subU rfl rfl (nat_cast _) (nat_cast _) rfl (by assumption) (by simp only [IntKind.bits]; assumption)) ?_
  refine S_as rfl rfl rfl ?_
  refine S_as rfl rfl rfl ?_
  refine S_as rfl rfl rfl ?_
  refine S_nx ?_
  refine T_ret ?_
  refine X_blk_ret ?_
  refine X_seq_ret ?_
  ((first | refine X_fin_ret ?_ | refine X_fin ?_); exact ⟨[_, _, _], [_], .cons (.tmp rfl) (.cons (.tmp rfl) (.cons (.tmp rfl) .nil)), Emb.one 1 rfl, ⟨_, rfl, rfl⟩⟩)
theorem rrun_5long (n x p gas : Nat) (hp : priceN 5 n x = p) (hx : x < 256 ^ n) (hn : n ≤ 1000000) (hgl : gas < 18446744073709551616) (hg : p ≤ gas) (v : Value) (w : World) (hr : Rd w v .u8 (bel n x)) (h : ¬ (lenN n x 0 = 0 ∧ lenN n x 2 = 0)) (hl : 64 < lenN n x 0 ∨ 64 < lenN n x 1 ∨ 64 < lenN n x 2) : Fn Tryd.prog 7 #[.int .i64 5, v, .int .u64 gas] w fun r N => ∃ u, r = .tuple #[u, .int .u64 ((0 : Nat) : Int), .bool false] ∧ N = [row .u8 [] u] := by
  have pr := fun w h => rprice_any 5 n x hx hn v w h
  rw [hp] at pr
  have pw := fun w hr => power16_long n x hx hn v w hr h hl
  clear hp hx h hl
  refine Fn_of (args := [.int .i64 5, v, .int .u64 gas]) Tryd.func7 rfl Tryd.ntmps7 Tryd.results7 (by simp) ?_
  refine T_sr ?_
  refine S_as rfl rfl rfl ?_
  refine S_as rfl rfl rfl ?_
  refine S_as rfl rfl rfl ?_
  refine S_nx ?_
  refine T_sr ?_
  refine S_sliceR (und rfl) (siz rfl) (zer rfl) rfl rfl rfl rfl fun _ => ?_
  refine S_as rfl rfl rfl ?_
  refine S_nx ?_
  refine T_sr ?_
  refine S_mv rfl rfl rfl ?_
  refine S_mv rfl rfl rfl ?_
  refine S_callV rfl rfl (bod rfl) (fun w hs => pr _ (by first | exact hs.rowRd 0 rfl | exact hs.rowRd 1 rfl | exact hs.rowRd 2 rfl | exact hs.rowRd 3 rfl | exact hs.rowRd 4 rfl | exact hs.rowRd 5 rfl | exact hs.rowRd 6 rfl | exact hs.rowRd 7 rfl | exact hs.rowRd 8 rfl | exact hs.rowRd 9 rfl | exact hs.rowRd 10 rfl | exact hs.rowRd 11 rfl | exact hs.rowRd 12 rfl | exact hs.rowRd 13 rfl | exact Rd.st (by assumption) hs)) rfl rfl ?_
  refine S_as rfl rfl rfl ?_
  refine S_nx ?_
  refine T_seq ?_
  refine T_sr ?_
  refine S_mv rfl rfl rfl ?_
  refine S_mv rfl rfl rfl ?_
  refine S_val rfl rfl (Y_lss_f rfl rfl (by omega)) ?_
  refine S_nx ?_
  refine T_cond_false rfl ?_
  refine T_skip ?_
  refine X_seq ?_
  refine T_seq ?_
  refine T_sr ?_
  refine S_mv rfl rfl rfl ?_
  refine S_nx ?_
  refine T_block ?_
  refine T_sr ?_
  refine S_val rfl rfl (Y_eql_f rfl rfl (by decide)) ?_
  refine S_as rfl rfl rfl ?_
  refine S_nx ?_
  refine T_cond_false rfl ?_
  refine T_sr ?_
  refine S_val rfl rfl (Y_eql_f rfl rfl (by decide)) ?_
  refine S_as rfl rfl rfl ?_
  refine S_nx ?_
  refine T_cond_false rfl ?_
  refine T_sr ?_
  refine S_val rfl rfl (Y_eql_t rfl rfl (by decide)) ?_
  refine S_as rfl rfl rfl ?_
  refine S_nx ?_
  refine T_cond_true rfl ?_
  refine T_sr ?_
  refine S_mv rfl rfl rfl ?_
  refine S_call _ rfl rfl (bod rfl) (fun w hs => pw _ (by first | exact hs.rowRd 0 rfl | exact hs.rowRd 1 rfl | exact hs.rowRd 2 rfl | exact hs.rowRd 3 rfl | exact hs.rowRd 4 rfl | exact hs.rowRd 5 rfl | exact hs.rowRd 6 rfl | exact hs.rowRd 7 rfl | exact hs.rowRd 8 rfl | exact hs.rowRd 9 rfl | exact hs.rowRd 10 rfl | exact hs.rowRd 11 rfl | exact hs.rowRd 12 rfl | exact hs.rowRd 13 rfl | exact Rd.st (by assumption) hs)) rfl rfl ?_
  rintro _ _ ⟨u, rfl, rfl⟩
  refine S_mv rfl rfl rfl ?_
  refine S_val rfl rfl (Y_extract rfl rfl) ?_
  refine S_val rfl rfl (Y_extract rfl rfl) ?_
  refine S_as rfl rfl rfl ?_
  refine S_as rfl rfl rfl ?_
  refine S_nx ?_
  refine T_seq ?_
  refine T_sr ?_
  refine S_mv rfl rfl rfl ?_
  refine S_val rfl rfl (Y_not rfl rfl) ?_
  refine S_nx ?_
  refine T_cond_true rfl ?_
  refine T_sr ?_
  refine S_mv rfl rfl rfl ?_
  refine S_as rfl rfl rfl ?_
  refine S_as rfl rfl rfl ?_
  refine S_as rfl rfl rfl ?_
  refine S_nx ?_
  refine T_ret ?_
  refine X_seq_ret ?_
  refine X_blk_ret ?_
  refine X_seq_ret ?_
  ((first | refine X_fin_ret ?_ | refine X_fin ?_); exact ⟨[_, _, _], [_], .cons (.tmp rfl) (.cons (.tmp rfl) (.cons (.tmp rfl) .nil)), Emb.one 0 rfl, ⟨_, rfl, rfl⟩⟩)
theorem rrun_5pow (n x p gas : Nat) (hp : priceN 5 n x = p) (hx : x < 256 ^ n) (hn : n ≤ 1000000) (hgl : gas < 18446744073709551616) (hg : p ≤ gas) (v : Value) (w : World) (hr : Rd w v .u8 (bel n x)) (h : ¬ (lenN n x 0 = 0 ∧ lenN n x 2 = 0)) (hb : lenN n x 0 ≤ 64) (he : lenN n x 1 ≤ 64) (hm : lenN n x 2 ≤ 64) : Fn Tryd.prog 7 #[.int .i64 5, v, .int .u64 gas] w fun r N => ∃ u, r = .tuple #[u, .int .u64 ((gas - p : Nat) : Int), .bool true] ∧ N = [row .u8 (bel (lenN n x 2) (runN n x)) u] := by
  have pr := fun w h => rprice_any 5 n x hx hn v w h
  rw [hp] at pr
  have pw := fun w hr => power16_pow n x hx hn v w hr h hb he hm
  clear hp hx h hb he hm
  generalize runN n x = z at *
  generalize lenN n x 2 = m at *
  refine Fn_of (args := [.int .i64 5, v, .int .u64 gas]) Tryd.func7 rfl Tryd.ntmps7 Tryd.results7 (by simp) ?_
  refine T_sr ?_
  refine S_as rfl rfl rfl ?_
  refine S_as rfl rfl rfl ?_
  refine S_as rfl rfl rfl ?_
  refine S_nx ?_
  refine T_sr ?_
  refine S_sliceR (und rfl) (siz rfl) (zer rfl) rfl rfl rfl rfl fun _ => ?_
  refine S_as rfl rfl rfl ?_
  refine S_nx ?_
  refine T_sr ?_
  refine S_mv rfl rfl rfl ?_
  refine S_mv rfl rfl rfl ?_
  refine S_callV rfl rfl (bod rfl) (fun w hs => pr _ (by first | exact hs.rowRd 0 rfl | exact hs.rowRd 1 rfl | exact hs.rowRd 2 rfl | exact hs.rowRd 3 rfl | exact hs.rowRd 4 rfl | exact hs.rowRd 5 rfl | exact hs.rowRd 6 rfl | exact hs.rowRd 7 rfl | exact hs.rowRd 8 rfl | exact hs.rowRd 9 rfl | exact hs.rowRd 10 rfl | exact hs.rowRd 11 rfl | exact hs.rowRd 12 rfl | exact hs.rowRd 13 rfl | exact Rd.st (by assumption) hs)) rfl rfl ?_
  refine S_as rfl rfl rfl ?_
  refine S_nx ?_
  refine T_seq ?_
  refine T_sr ?_
  refine S_mv rfl rfl rfl ?_
  refine S_mv rfl rfl rfl ?_
  refine S_val rfl rfl (Y_lss_f rfl rfl (by omega)) ?_
  refine S_nx ?_
  refine T_cond_false rfl ?_
  refine T_skip ?_
  refine X_seq ?_
  refine T_seq ?_
  refine T_sr ?_
  refine S_mv rfl rfl rfl ?_
  refine S_nx ?_
  refine T_block ?_
  refine T_sr ?_
  refine S_val rfl rfl (Y_eql_f rfl rfl (by decide)) ?_
  refine S_as rfl rfl rfl ?_
  refine S_nx ?_
  refine T_cond_false rfl ?_
  refine T_sr ?_
  refine S_val rfl rfl (Y_eql_f rfl rfl (by decide)) ?_
  refine S_as rfl rfl rfl ?_
  refine S_nx ?_
  refine T_cond_false rfl ?_
  refine T_sr ?_
  refine S_val rfl rfl (Y_eql_t rfl rfl (by decide)) ?_
  refine S_as rfl rfl rfl ?_
  refine S_nx ?_
  refine T_cond_true rfl ?_
  refine T_sr ?_
  refine S_mv rfl rfl rfl ?_
  refine S_call _ rfl rfl (bod rfl) (fun w hs => pw _ (by first | exact hs.rowRd 0 rfl | exact hs.rowRd 1 rfl | exact hs.rowRd 2 rfl | exact hs.rowRd 3 rfl | exact hs.rowRd 4 rfl | exact hs.rowRd 5 rfl | exact hs.rowRd 6 rfl | exact hs.rowRd 7 rfl | exact hs.rowRd 8 rfl | exact hs.rowRd 9 rfl | exact hs.rowRd 10 rfl | exact hs.rowRd 11 rfl | exact hs.rowRd 12 rfl | exact hs.rowRd 13 rfl | exact Rd.st (by assumption) hs)) rfl rfl ?_
  rintro _ _ ⟨u, rfl, rfl⟩
  refine S_mv rfl rfl rfl ?_
  refine S_val rfl rfl (Y_extract rfl rfl) ?_
  refine S_val rfl rfl (Y_extract rfl rfl) ?_
  refine S_as rfl rfl rfl ?_
  refine S_as rfl rfl rfl ?_
  refine S_nx ?_
  refine T_seq ?_
  refine T_sr ?_
  refine S_mv rfl rfl rfl ?_
  refine S_val rfl rfl (Y_not rfl rfl) ?_
  refine S_nx ?_
  refine T_cond_false rfl ?_
  refine T_skip ?_
  refine X_seq ?_
  refine T_sr ?_
  refine S_mv rfl rfl rfl ?_
  refine S_mv rfl rfl rfl ?_
  refine S_mv rfl rfl rfl ?_
  refine S_val rfl rfl (Y_subU rfl rfl (nat_cast _) (nat_cast _) rfl (by assumption) (by simp only [IntKind.bits]; assumption)) ?_
  refine S_as rfl rfl rfl ?_
  refine S_as rfl rfl rfl ?_
  refine S_as rfl rfl rfl ?_
  refine S_nx ?_
  refine T_ret ?_
  refine X_blk_ret ?_
  refine X_seq_ret ?_
  ((first | refine X_fin_ret ?_ | refine X_fin ?_); exact ⟨[_, _, _], [_], .cons (.tmp rfl) (.cons (.tmp rfl) (.cons (.tmp rfl) .nil)), Emb.one 1 rfl, ⟨_, rfl, rfl⟩⟩)
theorem prun_5nil (n x p gas : Nat) (hp : priceN 5 n x = p) (hx : x < 256 ^ n) (hn : n ≤ 1000000) (hgl : gas < 18446744073709551616) (hg : p ≤ gas) (v : Value) (w : World) (hr : Rd w v .u8 (bel n x)) (h : lenN n x 0 = 0 ∧ lenN n x 2 = 0) : Fn Tryd.prog 6 #[.int .i64 5, v, .int .u64 gas] w fun r N => r = .tuple #[.slice none 0 0, .int .u64 ((gas - p : Nat) : Int), .bool true] ∧ N = [] := by
  have pr := fun w h => price_any 5 n x hx hn v w h
  rw [hp] at pr
  have pw := fun w hr => mrun_nil n x hx hn v w hr h
  clear hp hx h
  refine Fn_of (args := [.int .i64 5, v, .int .u64 gas]) Tryd.func6 rfl Tryd.ntmps6 Tryd.results6 (by simp) ?_
  refine T_sr ?_
  refine S_as rfl rfl rfl ?_
  refine S_as rfl rfl rfl ?_
  refine S_as rfl rfl rfl ?_
  refine S_nx ?_
  refine T_sr ?_
  refine S_mv rfl rfl rfl ?_
  refine S_mv rfl rfl rfl ?_
  refine S_callV rfl rfl (bod rfl) (fun w hs => pr _ (by first | exact hs.rowRd 0 rfl | exact hs.rowRd 1 rfl | exact hs.rowRd 2 rfl | exact hs.rowRd 3 rfl | exact hs.rowRd 4 rfl | exact hs.rowRd 5 rfl | exact hs.rowRd 6 rfl | exact hs.rowRd 7 rfl | exact hs.rowRd 8 rfl | exact hs.rowRd 9 rfl | exact hs.rowRd 10 rfl | exact hs.rowRd 11 rfl | exact hs.rowRd 12 rfl | exact hs.rowRd 13 rfl | exact Rd.st (by assumption) hs)) rfl rfl ?_
  refine S_as rfl rfl rfl ?_
  refine S_nx ?_
  refine T_seq ?_
  refine T_sr ?_
  refine S_mv rfl rfl rfl ?_
  refine S_mv rfl rfl rfl ?_
  refine S_val rfl rfl (Y_gtr_f rfl rfl (by omega)) ?_
  refine S_nx ?_
  refine T_cond_false rfl ?_
  refine T_skip ?_
  refine X_seq ?_
  refine T_sr ?_
  refine S_as rfl rfl rfl ?_
  refine S_nx ?_
  refine T_seq ?_
  refine T_sr ?_
  refine S_mv rfl rfl rfl ?_
  refine S_nx ?_
  refine T_block ?_
  refine T_sr ?_
  refine S_val rfl rfl (Y_eql_f rfl rfl (by decide)) ?_
  refine S_as rfl rfl rfl ?_
  refine S_nx ?_
  refine T_cond_false rfl ?_
  refine T_sr ?_
  refine S_val rfl rfl (Y_eql_f rfl rfl (by decide)) ?_
  refine S_as rfl rfl rfl ?_
  refine S_nx ?_
  refine T_cond_false rfl ?_
  refine T_sr ?_
  refine S_val rfl rfl (Y_eql_t rfl rfl (by decide)) ?_
  refine S_as rfl rfl rfl ?_
  refine S_nx ?_
  refine T_cond_true rfl ?_
  refine T_sr ?_
  refine S_mv rfl rfl rfl ?_
  refine S_callV rfl rfl (bod rfl) (fun w hs => pw _ (by first | exact hs.rowRd 0 rfl | exact hs.rowRd 1 rfl | exact hs.rowRd 2 rfl | exact hs.rowRd 3 rfl | exact hs.rowRd 4 rfl | exact hs.rowRd 5 rfl | exact hs.rowRd 6 rfl | exact hs.rowRd 7 rfl | exact hs.rowRd 8 rfl | exact hs.rowRd 9 rfl | exact hs.rowRd 10 rfl | exact hs.rowRd 11 rfl | exact hs.rowRd 12 rfl | exact hs.rowRd 13 rfl | exact Rd.st (by assumption) hs)) rfl rfl ?_
  refine S_mv rfl rfl rfl ?_
  refine S_val rfl rfl (Y_extract rfl rfl) ?_
  refine S_val rfl rfl (Y_extract rfl rfl) ?_
  refine S_as rfl rfl rfl ?_
  refine S_as rfl rfl rfl ?_
  refine S_nx ?_
  refine T_seq ?_
  refine T_sr ?_
  refine S_mv rfl rfl rfl ?_
  refine S_val rfl rfl (Y_neq_f rfl rfl (by decide)) ?_
  refine S_nx ?_
  refine T_cond_false rfl ?_
  refine T_skip ?_
  refine X_seq ?_
  refine T_region ?_
  refine S_mv rfl rfl rfl ?_
  refine S_as rfl rfl rfl ?_
  refine S_nil ?_
  refine X_blk ?_
  refine X_seq ?_
  refine T_sr ?_
  refine S_mv rfl rfl rfl ?_
  refine S_mv rfl rfl rfl ?_
  refine S_mv rfl rfl rfl ?_
  refine S_val rfl rfl (Y_subU rfl rfl (nat_cast _) (nat_cast _) rfl (by assumption) (by simp only [IntKind.bits]; assumption)) ?_
  refine S_as rfl rfl rfl ?_
  refine S_as rfl rfl rfl ?_
  refine S_as rfl rfl rfl ?_
  refine S_nx ?_
  refine T_ret ?_
  ((first | refine X_fin_ret ?_ | refine X_fin ?_); exact ⟨[_, _, _], [], .cons (.tmp rfl) (.cons (.tmp rfl) (.cons (.tmp rfl) .nil)), Emb.nil _, rfl, rfl⟩)
theorem prun_5long (n x p gas : Nat) (hp : priceN 5 n x = p) (hx : x < 256 ^ n) (hn : n ≤ 1000000) (hgl : gas < 18446744073709551616) (hg : p ≤ gas) (v : Value) (w : World) (hr : Rd w v .u8 (bel n x)) (h : ¬ (lenN n x 0 = 0 ∧ lenN n x 2 = 0)) (hl : 64 < lenN n x 0 ∨ 64 < lenN n x 1 ∨ 64 < lenN n x 2) : Fn Tryd.prog 6 #[.int .i64 5, v, .int .u64 gas] w fun r N => r = .tuple #[.slice none 0 0, .int .u64 ((0 : Nat) : Int), .bool false] ∧ N = [] := by
  have pr := fun w h => price_any 5 n x hx hn v w h
  rw [hp] at pr
  have pw := fun w hr => mrun_long n x hx hn v w hr h hl
  clear hp hx h hl
  refine Fn_of (args := [.int .i64 5, v, .int .u64 gas]) Tryd.func6 rfl Tryd.ntmps6 Tryd.results6 (by simp) ?_
  refine T_sr ?_
  refine S_as rfl rfl rfl ?_
  refine S_as rfl rfl rfl ?_
  refine S_as rfl rfl rfl ?_
  refine S_nx ?_
  refine T_sr ?_
  refine S_mv rfl rfl rfl ?_
  refine S_mv rfl rfl rfl ?_
  refine S_callV rfl rfl (bod rfl) (fun w hs => pr _ (by first | exact hs.rowRd 0 rfl | exact hs.rowRd 1 rfl | exact hs.rowRd 2 rfl | exact hs.rowRd 3 rfl | exact hs.rowRd 4 rfl | exact hs.rowRd 5 rfl | exact hs.rowRd 6 rfl | exact hs.rowRd 7 rfl | exact hs.rowRd 8 rfl | exact hs.rowRd 9 rfl | exact hs.rowRd 10 rfl | exact hs.rowRd 11 rfl | exact hs.rowRd 12 rfl | exact hs.rowRd 13 rfl | exact Rd.st (by assumption) hs)) rfl rfl ?_
  refine S_as rfl rfl rfl ?_
  refine S_nx ?_
  refine T_seq ?_
  refine T_sr ?_
  refine S_mv rfl rfl rfl ?_
  refine S_mv rfl rfl rfl ?_
  refine S_val rfl rfl (Y_gtr_f rfl rfl (by omega)) ?_
  refine S_nx ?_
  refine T_cond_false rfl ?_
  refine T_skip ?_
  refine X_seq ?_
  refine T_sr ?_
  refine S_as rfl rfl rfl ?_
  refine S_nx ?_
  refine T_seq ?_
  refine T_sr ?_
  refine S_mv rfl rfl rfl ?_
  refine S_nx ?_
  refine T_block ?_
  refine T_sr ?_
  refine S_val rfl rfl (Y_eql_f rfl rfl (by decide)) ?_
  refine S_as rfl rfl rfl ?_
  refine S_nx ?_
  refine T_cond_false rfl ?_
  refine T_sr ?_
  refine S_val rfl rfl (Y_eql_f rfl rfl (by decide)) ?_
  refine S_as rfl rfl rfl ?_
  refine S_nx ?_
  refine T_cond_false rfl ?_
  refine T_sr ?_
  refine S_val rfl rfl (Y_eql_t rfl rfl (by decide)) ?_
  refine S_as rfl rfl rfl ?_
  refine S_nx ?_
  refine T_cond_true rfl ?_
  refine T_sr ?_
  refine S_mv rfl rfl rfl ?_
  refine S_callV rfl rfl (bod rfl) (fun w hs => pw _ (by first | exact hs.rowRd 0 rfl | exact hs.rowRd 1 rfl | exact hs.rowRd 2 rfl | exact hs.rowRd 3 rfl | exact hs.rowRd 4 rfl | exact hs.rowRd 5 rfl | exact hs.rowRd 6 rfl | exact hs.rowRd 7 rfl | exact hs.rowRd 8 rfl | exact hs.rowRd 9 rfl | exact hs.rowRd 10 rfl | exact hs.rowRd 11 rfl | exact hs.rowRd 12 rfl | exact hs.rowRd 13 rfl | exact Rd.st (by assumption) hs)) rfl rfl ?_
  refine S_mv rfl rfl rfl ?_
  refine S_val rfl rfl (Y_extract rfl rfl) ?_
  refine S_val rfl rfl (Y_extract rfl rfl) ?_
  refine S_as rfl rfl rfl ?_
  refine S_as rfl rfl rfl ?_
  refine S_nx ?_
  refine T_seq ?_
  refine T_sr ?_
  refine S_mv rfl rfl rfl ?_
  refine S_val rfl rfl (Y_neq_t rfl rfl (by decide)) ?_
  refine S_nx ?_
  refine T_cond_true rfl ?_
  refine T_sr ?_
  refine S_as rfl rfl rfl ?_
  refine S_as rfl rfl rfl ?_
  refine S_as rfl rfl rfl ?_
  refine S_nx ?_
  refine T_ret ?_
  refine X_seq_ret ?_
  refine X_blk_ret ?_
  refine X_seq_ret ?_
  ((first | refine X_fin_ret ?_ | refine X_fin ?_); exact ⟨[_, _, _], [], .cons (.tmp rfl) (.cons (.tmp rfl) (.cons (.tmp rfl) .nil)), Emb.nil _, rfl, rfl⟩)
theorem prun_5pow (n x p gas : Nat) (hp : priceN 5 n x = p) (hx : x < 256 ^ n) (hn : n ≤ 1000000) (hgl : gas < 18446744073709551616) (hg : p ≤ gas) (v : Value) (w : World) (hr : Rd w v .u8 (bel n x)) (h : ¬ (lenN n x 0 = 0 ∧ lenN n x 2 = 0)) (hb : lenN n x 0 ≤ 64) (he : lenN n x 1 ≤ 64) (hm : lenN n x 2 ≤ 64) : Fn Tryd.prog 6 #[.int .i64 5, v, .int .u64 gas] w fun r N => ∃ u, r = .tuple #[u, .int .u64 ((gas - p : Nat) : Int), .bool true] ∧ N = [row .u8 (bel (lenN n x 2) (runN n x)) u] := by
  have pr := fun w h => price_any 5 n x hx hn v w h
  rw [hp] at pr
  have pw := fun w hr => mrun_pow n x hx hn v w hr h hb he hm
  clear hp hx h hb he hm
  generalize runN n x = z at *
  generalize lenN n x 2 = m at *
  refine Fn_of (args := [.int .i64 5, v, .int .u64 gas]) Tryd.func6 rfl Tryd.ntmps6 Tryd.results6 (by simp) ?_
  refine T_sr ?_
  refine S_as rfl rfl rfl ?_
  refine S_as rfl rfl rfl ?_
  refine S_as rfl rfl rfl ?_
  refine S_nx ?_
  refine T_sr ?_
  refine S_mv rfl rfl rfl ?_
  refine S_mv rfl rfl rfl ?_
  refine S_callV rfl rfl (bod rfl) (fun w hs => pr _ (by first | exact hs.rowRd 0 rfl | exact hs.rowRd 1 rfl | exact hs.rowRd 2 rfl | exact hs.rowRd 3 rfl | exact hs.rowRd 4 rfl | exact hs.rowRd 5 rfl | exact hs.rowRd 6 rfl | exact hs.rowRd 7 rfl | exact hs.rowRd 8 rfl | exact hs.rowRd 9 rfl | exact hs.rowRd 10 rfl | exact hs.rowRd 11 rfl | exact hs.rowRd 12 rfl | exact hs.rowRd 13 rfl | exact Rd.st (by assumption) hs)) rfl rfl ?_
  refine S_as rfl rfl rfl ?_
  refine S_nx ?_
  refine T_seq ?_
  refine T_sr ?_
  refine S_mv rfl rfl rfl ?_
  refine S_mv rfl rfl rfl ?_
  refine S_val rfl rfl (Y_gtr_f rfl rfl (by omega)) ?_
  refine S_nx ?_
  refine T_cond_false rfl ?_
  refine T_skip ?_
  refine X_seq ?_
  refine T_sr ?_
  refine S_as rfl rfl rfl ?_
  refine S_nx ?_
  refine T_seq ?_
  refine T_sr ?_
  refine S_mv rfl rfl rfl ?_
  refine S_nx ?_
  refine T_block ?_
  refine T_sr ?_
  refine S_val rfl rfl (Y_eql_f rfl rfl (by decide)) ?_
  refine S_as rfl rfl rfl ?_
  refine S_nx ?_
  refine T_cond_false rfl ?_
  refine T_sr ?_
  refine S_val rfl rfl (Y_eql_f rfl rfl (by decide)) ?_
  refine S_as rfl rfl rfl ?_
  refine S_nx ?_
  refine T_cond_false rfl ?_
  refine T_sr ?_
  refine S_val rfl rfl (Y_eql_t rfl rfl (by decide)) ?_
  refine S_as rfl rfl rfl ?_
  refine S_nx ?_
  refine T_cond_true rfl ?_
  refine T_sr ?_
  refine S_mv rfl rfl rfl ?_
  refine S_call _ rfl rfl (bod rfl) (fun w hs => pw _ (by first | exact hs.rowRd 0 rfl | exact hs.rowRd 1 rfl | exact hs.rowRd 2 rfl | exact hs.rowRd 3 rfl | exact hs.rowRd 4 rfl | exact hs.rowRd 5 rfl | exact hs.rowRd 6 rfl | exact hs.rowRd 7 rfl | exact hs.rowRd 8 rfl | exact hs.rowRd 9 rfl | exact hs.rowRd 10 rfl | exact hs.rowRd 11 rfl | exact hs.rowRd 12 rfl | exact hs.rowRd 13 rfl | exact Rd.st (by assumption) hs)) rfl rfl ?_
  rintro _ _ ⟨u, rfl, rfl⟩
  refine S_mv rfl rfl rfl ?_
  refine S_val rfl rfl (Y_extract rfl rfl) ?_
  refine S_val rfl rfl (Y_extract rfl rfl) ?_
  refine S_as rfl rfl rfl ?_
  refine S_as rfl rfl rfl ?_
  refine S_nx ?_
  refine T_seq ?_
  refine T_sr ?_
  refine S_mv rfl rfl rfl ?_
  refine S_val rfl rfl (Y_neq_f rfl rfl (by decide)) ?_
  refine S_nx ?_
  refine T_cond_false rfl ?_
  refine T_skip ?_
  refine X_seq ?_
  refine T_region ?_
  refine S_mv rfl rfl rfl ?_
  refine S_as rfl rfl rfl ?_
  refine S_nil ?_
  refine X_blk ?_
  refine X_seq ?_
  refine T_sr ?_
  refine S_mv rfl rfl rfl ?_
  refine S_mv rfl rfl rfl ?_
  refine S_mv rfl rfl rfl ?_
  refine S_val rfl rfl (Y_subU rfl rfl (nat_cast _) (nat_cast _) rfl (by assumption) (by simp only [IntKind.bits]; assumption)) ?_
  refine S_as rfl rfl rfl ?_
  refine S_as rfl rfl rfl ?_
  refine S_as rfl rfl rfl ?_
  refine S_nx ?_
  refine T_ret ?_
  ((first | refine X_fin_ret ?_ | refine X_fin ?_); exact ⟨[_, _, _], [_], .cons (.tmp rfl) (.cons (.tmp rfl) (.cons (.tmp rfl) .nil)), Emb.one 0 rfl, ⟨_, rfl, rfl⟩⟩)
theorem has_yes (q : Int) (h : q = 2 ∨ q = 4 ∨ q = 5) (w : World) : Fn Tryd.prog 8 #[.int .i64 q] w fun r N => r = .bool true ∧ N = [] := by
  rcases h with rfl | rfl | rfl
  all_goals
    refine Fn_of (args := [.int .i64 _]) Tryd.func8 rfl Tryd.ntmps8 Tryd.results8 (by simp) ?_
    first | (refine T_sr ?_; refine S_as rfl rfl rfl ?_; refine S_nx ?_; refine T_sr ?_; refine S_mv rfl rfl rfl ?_; refine S_val rfl rfl (Y_eql_t rfl rfl (by decide)) ?_; refine S_mv rfl rfl rfl ?_; refine S_skip rfl rfl ?_; refine S_skip rfl rfl ?_; refine S_val rfl rfl (Y_pick_t rfl rfl) ?_; refine S_mv rfl rfl rfl ?_; refine S_skip rfl rfl ?_; refine S_skip rfl rfl ?_; refine S_val rfl rfl (Y_pick_t rfl rfl) ?_; refine S_as rfl rfl rfl ?_; refine S_nx ?_; refine T_ret ?_) | (refine T_sr ?_; refine S_as rfl rfl rfl ?_; refine S_nx ?_; refine T_sr ?_; refine S_mv rfl rfl rfl ?_; refine S_val rfl rfl (Y_eql_f rfl rfl (by decide)) ?_; refine S_mv rfl rfl rfl ?_; refine S_mv rfl rfl rfl ?_; refine S_val rfl rfl (Y_eql_t rfl rfl (by decide)) ?_; refine S_val rfl rfl (Y_pick_f rfl rfl) ?_; refine S_mv rfl rfl rfl ?_; refine S_skip rfl rfl ?_; refine S_skip rfl rfl ?_; refine S_val rfl rfl (Y_pick_t rfl rfl) ?_; refine S_as rfl rfl rfl ?_; refine S_nx ?_; refine T_ret ?_) | (refine T_sr ?_; refine S_as rfl rfl rfl ?_; refine S_nx ?_; refine T_sr ?_; refine S_mv rfl rfl rfl ?_; refine S_val rfl rfl (Y_eql_f rfl rfl (by decide)) ?_; refine S_mv rfl rfl rfl ?_; refine S_mv rfl rfl rfl ?_; refine S_val rfl rfl (Y_eql_f rfl rfl (by decide)) ?_; refine S_val rfl rfl (Y_pick_f rfl rfl) ?_; refine S_mv rfl rfl rfl ?_; refine S_mv rfl rfl rfl ?_; refine S_val rfl rfl (Y_eql_t rfl rfl (by decide)) ?_; refine S_val rfl rfl (Y_pick_f rfl rfl) ?_; refine S_as rfl rfl rfl ?_; refine S_nx ?_; refine T_ret ?_)
    ((first | refine X_fin_ret ?_ | refine X_fin ?_); exact ⟨[_], [], .cons (.tmp rfl) .nil, Emb.nil _, rfl, rfl⟩)
theorem has_no (q : Int) (h : q ≠ 2 ∧ q ≠ 4 ∧ q ≠ 5) (w : World) : Fn Tryd.prog 8 #[.int .i64 q] w fun r N => r = .bool false ∧ N = [] := by
  obtain ⟨h2, h4, h5⟩ := h
  refine Fn_of (args := [.int .i64 q]) Tryd.func8 rfl Tryd.ntmps8 Tryd.results8 (by simp) ?_
  refine T_sr ?_
  refine S_as rfl rfl rfl ?_
  refine S_nx ?_
  refine T_sr ?_
  refine S_mv rfl rfl rfl ?_
  refine S_val rfl rfl (Y_eql_f rfl rfl (by assumption)) ?_
  refine S_mv rfl rfl rfl ?_
  refine S_mv rfl rfl rfl ?_
  refine S_val rfl rfl (Y_eql_f rfl rfl (by assumption)) ?_
  refine S_val rfl rfl (Y_pick_f rfl rfl) ?_
  refine S_mv rfl rfl rfl ?_
  refine S_mv rfl rfl rfl ?_
  refine S_val rfl rfl (Y_eql_f rfl rfl (by assumption)) ?_
  refine S_val rfl rfl (Y_pick_f rfl rfl) ?_
  refine S_as rfl rfl rfl ?_
  refine S_nx ?_
  refine T_ret ?_
  ((first | refine X_fin_ret ?_ | refine X_fin ?_); exact ⟨[_], [], .cons (.tmp rfl) .nil, Emb.nil _, rfl, rfl⟩)
end Go.Proofs.YtjolmphkmfbpbaaDoor
/- The law PrecPaid hands back true. -/
namespace Go.Proofs.YtjolmphkmfbpbaaDoor
open Go.RowKit
set_option maxRecDepth 20000
set_option maxHeartbeats 40000000
theorem bel_byl (n x : Nat) : ∃ bs : List U8, bel n x = byl bs ∧ bs.length = n := by
  refine ⟨(bel n x).map fun z => BitVec.ofInt 8 z, List.ext_getElem? fun i => ?_, by rw [List.length_map, bel_length]⟩
  unfold byl
  rw [List.map_map, List.getElem?_map]
  by_cases h : i < n
  · rw [bel_get h]
    show _ = some _
    congr 1
    have hd : x / 256 ^ (n - 1 - i) % 256 < 256 := Nat.mod_lt _ (by omega)
    generalize x / 256 ^ (n - 1 - i) % 256 = d at *
    show ((d : Nat) : Int) = (((BitVec.ofInt 8 (d : Int)).toNat : Nat) : Int)
    rw [BitVec.toNat_ofInt]
    omega
  · rw [List.getElem?_eq_none (by rw [bel_length]; omega)]
    rfl
end Go.Proofs.YtjolmphkmfbpbaaDoor
/- The law PrecRuns hands back true. -/
namespace Go.Proofs.YtjolmphkmfbpbaaDoor
open Go.RowKit
set_option maxRecDepth 20000
set_option maxHeartbeats 40000000
theorem Rd.nil0 (w : World) (k : IntKind) : Rd w (.slice none 0 0) k [] := ⟨none, 0, rfl, Nat.le_refl _, .inl rfl⟩
theorem runs_low (q : Int) (n x gas : Nat) (hx : x < 256 ^ n) (hn : n ≤ 1000) (hg : gas < priceN q n x) (v : Value) (w : World) (hr : Rd w v .u8 (bel n x)) (ha : ∀ w, Fn Tryd.prog 8 #[.int .i64 q] w fun r N => r = .bool true ∧ N = []) (h : q = 2 ∨ q = 4) : Fn Tryd.prog 3 #[.int .i64 q, v, .int .u64 gas] w fun u N => u = .bool true ∧ N = [] := by
  have hbl := bel_length n x
  have hpl := priceN_lt q n x (by omega)
  have pu := fun v w h => prun_low q n x _ gas rfl hx (by omega) hpl hg v w h
  have ru := fun w h => rrun_low q n x _ gas rfl hx (by omega) hpl hg v w h
  clear hx hpl hg
  rcases h with rfl | rfl
  all_goals
    have hnil := Rd.nil0 w .u8
    refine Fn_of (args := [.int .i64 _, v, .int .u64 gas]) Tryd.func3 rfl Tryd.ntmps3 Tryd.results3 (by simp) ?_
    refine T_sr ?_
    refine S_as rfl rfl rfl ?_
    refine S_nx ?_
    refine T_seq ?_
    refine T_sr ?_
    refine S_mv rfl rfl rfl ?_
    refine S_val rfl rfl (Y_lenV rfl (und rfl) rfl (fun _ hs => Rd.st (by assumption) hs) (bel_length _ _)) ?_
    refine S_val rfl rfl (Y_gtr_f rfl rfl (by omega)) ?_
    refine S_mv rfl rfl rfl ?_
    refine S_mv rfl rfl rfl ?_
    refine S_val rfl rfl (Y_eql_f rfl rfl (by decide)) ?_
    refine S_mv rfl rfl rfl ?_
    refine S_skip rfl rfl ?_
    refine S_skip rfl rfl ?_
    refine S_skip rfl rfl ?_
    refine S_val rfl rfl (Y_pick_f rfl rfl) ?_
    refine S_val rfl rfl (Y_pick_f rfl rfl) ?_
    refine S_nx ?_
    refine T_cond_false rfl ?_
    refine T_skip ?_
    refine X_seq ?_
    refine T_sr ?_
    refine S_sliceR (und rfl) (siz rfl) (zer rfl) rfl rfl rfl rfl fun _ => ?_
    refine S_mv rfl rfl rfl ?_
    refine S_append 0 rfl (und rfl) (und rfl) (siz rfl) (byt rfl) (zer rfl) rfl rfl rfl (fun _ hs => Rd.st (by assumption) hs) (by simp; omega) rfl rfl rfl fun _ => ?_
    refine S_as rfl rfl rfl ?_
    refine S_nx ?_
    refine T_sr ?_
    refine S_mv rfl rfl rfl ?_
    refine S_mv rfl rfl rfl ?_
    refine S_mv rfl rfl rfl ?_
    rw [List.nil_append]
    refine S_call _ rfl rfl (bod rfl) (fun w hs => pu _ _ (hs.rowRd 0 rfl)) rfl rfl ?_
    rintro _ _ ⟨rfl, rfl⟩
    refine S_mv rfl rfl rfl ?_
    refine S_val rfl rfl (Y_extract rfl rfl) ?_
    refine S_val rfl rfl (Y_extract rfl rfl) ?_
    refine S_val rfl rfl (Y_extract rfl rfl) ?_
    refine S_as rfl rfl rfl ?_
    refine S_as rfl rfl rfl ?_
    refine S_as rfl rfl rfl ?_
    refine S_nx ?_
    refine T_sr ?_
    refine S_mv rfl rfl rfl ?_
    refine S_mv rfl rfl rfl ?_
    refine S_mv rfl rfl rfl ?_
    refine S_call _ rfl rfl (bod rfl) (fun w hs => ru _ (Rd.st hr hs)) rfl rfl ?_
    rintro _ _ ⟨u, rfl, rfl⟩
    refine S_mv rfl rfl rfl ?_
    refine S_val rfl rfl (Y_extract rfl rfl) ?_
    refine S_val rfl rfl (Y_extract rfl rfl) ?_
    refine S_val rfl rfl (Y_extract rfl rfl) ?_
    refine S_as rfl rfl rfl ?_
    refine S_as rfl rfl rfl ?_
    refine S_as rfl rfl rfl ?_
    refine S_nx ?_
    refine T_sr ?_
    refine S_callV rfl rfl (bod rfl) (fun w hs => pfixed_any _) rfl rfl ?_
    refine S_mv rfl rfl rfl ?_
    refine S_mv rfl rfl rfl ?_
    refine S_val rfl rfl (Y_toStr (und rfl) (und rfl) (und rfl) rfl (fun _ hs => Rd.st (by assumption) hs)) ?_
    refine S_mv rfl rfl rfl ?_
    refine S_val rfl rfl (Y_toStr (und rfl) (und rfl) (und rfl) rfl (fun _ hs => hs.rowRd 1 rfl)) ?_
    refine S_val rfl rfl (Y_eqlT_t rfl rfl rfl) ?_
    refine S_val rfl rfl (Y_pick_t rfl rfl) ?_
    refine S_mv rfl rfl rfl ?_
    refine S_mv rfl rfl rfl ?_
    refine S_mv rfl rfl rfl ?_
    refine S_val rfl rfl (Y_eql_t rfl rfl (by decide)) ?_
    refine S_val rfl rfl (Y_pick_t rfl rfl) ?_
    refine S_mv rfl rfl rfl ?_
    refine S_mv rfl rfl rfl ?_
    refine S_mv rfl rfl rfl ?_
    refine S_val rfl rfl (Y_eqlB_t (und rfl) rfl rfl) ?_
    refine S_val rfl rfl (Y_pick_t rfl rfl) ?_
    refine S_mv rfl rfl rfl ?_
    refine S_mv rfl rfl rfl ?_
    refine S_val rfl rfl (Y_toStr (und rfl) (und rfl) (und rfl) rfl (fun _ hs => hs.rowRd 0 rfl)) ?_
    refine S_mv rfl rfl rfl ?_
    refine S_val rfl rfl (Y_toStr (und rfl) (und rfl) (und rfl) rfl (fun _ hs => Rd.st (by assumption) hs)) ?_
    refine S_val rfl rfl (Y_eqlT_t rfl rfl rfl) ?_
    refine S_val rfl rfl (Y_pick_t rfl rfl) ?_
    refine S_mv rfl rfl rfl ?_
    refine S_mv rfl rfl rfl ?_
    refine S_callV rfl rfl (bod rfl) (fun w hs => ha _) rfl rfl ?_
    first | (refine S_mv rfl rfl rfl ?_; refine S_val rfl rfl (Y_eql_t rfl rfl (by decide)) ?_; refine S_mv rfl rfl rfl ?_; refine S_skip rfl rfl ?_; refine S_skip rfl rfl ?_; refine S_val rfl rfl (Y_pick_t rfl rfl) ?_; refine S_mv rfl rfl rfl ?_; refine S_skip rfl rfl ?_; refine S_skip rfl rfl ?_; refine S_val rfl rfl (Y_pick_t rfl rfl) ?_; refine S_val rfl rfl (Y_eqlB_t (und rfl) rfl rfl) ?_; refine S_val rfl rfl (Y_pick_t rfl rfl) ?_; refine S_as rfl rfl rfl ?_; refine S_nx ?_; refine T_ret ?_) | (refine S_mv rfl rfl rfl ?_; refine S_val rfl rfl (Y_eql_f rfl rfl (by decide)) ?_; refine S_mv rfl rfl rfl ?_; refine S_mv rfl rfl rfl ?_; refine S_val rfl rfl (Y_eql_t rfl rfl (by decide)) ?_; refine S_val rfl rfl (Y_pick_f rfl rfl) ?_; refine S_mv rfl rfl rfl ?_; refine S_skip rfl rfl ?_; refine S_skip rfl rfl ?_; refine S_val rfl rfl (Y_pick_t rfl rfl) ?_; refine S_val rfl rfl (Y_eqlB_t (und rfl) rfl rfl) ?_; refine S_val rfl rfl (Y_pick_t rfl rfl) ?_; refine S_as rfl rfl rfl ?_; refine S_nx ?_; refine T_ret ?_)
    ((first | refine X_fin_ret ?_ | refine X_fin ?_); exact ⟨[_], [], .cons (.tmp rfl) .nil, Emb.nil _, rfl, rfl⟩)
theorem runs_none (q : Int) (h : q ≠ 2 ∧ q ≠ 4 ∧ q ≠ 5) (n x gas : Nat) (hx : x < 256 ^ n) (hn : n ≤ 1000) (hgl : gas < 18446744073709551616) (v : Value) (w : World) (hr : Rd w v .u8 (bel n x)) : Fn Tryd.prog 3 #[.int .i64 q, v, .int .u64 gas] w fun u N => u = .bool true ∧ N = [] := by
  have hbl := bel_length n x
  have pu := fun v w h2 => prun_none q n x gas h hx (by omega) hgl v w h2
  have ru := fun w h2 => rrun_none q n x gas h hx (by omega) hgl v w h2
  have ha := has_no q h
  obtain ⟨h2, h4, h5⟩ := h
  clear hx
  have hnil := Rd.nil0 w .u8
  refine Fn_of (args := [.int .i64 q, v, .int .u64 gas]) Tryd.func3 rfl Tryd.ntmps3 Tryd.results3 (by simp) ?_
  refine T_sr ?_
  refine S_as rfl rfl rfl ?_
  refine S_nx ?_
  refine T_seq ?_
  refine T_sr ?_
  refine S_mv rfl rfl rfl ?_
  refine S_val rfl rfl (Y_lenV rfl (und rfl) rfl (fun _ hs => Rd.st (by assumption) hs) (bel_length _ _)) ?_
  refine S_val rfl rfl (Y_gtr_f rfl rfl (by omega)) ?_
  refine S_mv rfl rfl rfl ?_
  refine S_mv rfl rfl rfl ?_
  refine S_val rfl rfl (Y_eql_f rfl rfl (by assumption)) ?_
  refine S_mv rfl rfl rfl ?_
  refine S_skip rfl rfl ?_
  refine S_skip rfl rfl ?_
  refine S_skip rfl rfl ?_
  refine S_val rfl rfl (Y_pick_f rfl rfl) ?_
  refine S_val rfl rfl (Y_pick_f rfl rfl) ?_
  refine S_nx ?_
  refine T_cond_false rfl ?_
  refine T_skip ?_
  refine X_seq ?_
  refine T_sr ?_
  refine S_sliceR (und rfl) (siz rfl) (zer rfl) rfl rfl rfl rfl fun _ => ?_
  refine S_mv rfl rfl rfl ?_
  refine S_append 0 rfl (und rfl) (und rfl) (siz rfl) (byt rfl) (zer rfl) rfl rfl rfl (fun _ hs => Rd.st (by assumption) hs) (by simp; omega) rfl rfl rfl fun _ => ?_
  refine S_as rfl rfl rfl ?_
  refine S_nx ?_
  refine T_sr ?_
  refine S_mv rfl rfl rfl ?_
  refine S_mv rfl rfl rfl ?_
  refine S_mv rfl rfl rfl ?_
  rw [List.nil_append]
  refine S_call _ rfl rfl (bod rfl) (fun w hs => pu _ _ (hs.rowRd 0 rfl)) rfl rfl ?_
  rintro _ _ ⟨rfl, rfl⟩
  refine S_mv rfl rfl rfl ?_
  refine S_val rfl rfl (Y_extract rfl rfl) ?_
  refine S_val rfl rfl (Y_extract rfl rfl) ?_
  refine S_val rfl rfl (Y_extract rfl rfl) ?_
  refine S_as rfl rfl rfl ?_
  refine S_as rfl rfl rfl ?_
  refine S_as rfl rfl rfl ?_
  refine S_nx ?_
  refine T_sr ?_
  refine S_mv rfl rfl rfl ?_
  refine S_mv rfl rfl rfl ?_
  refine S_mv rfl rfl rfl ?_
  refine S_call _ rfl rfl (bod rfl) (fun w hs => ru _ (Rd.st hr hs)) rfl rfl ?_
  rintro _ _ ⟨u, rfl, rfl⟩
  refine S_mv rfl rfl rfl ?_
  refine S_val rfl rfl (Y_extract rfl rfl) ?_
  refine S_val rfl rfl (Y_extract rfl rfl) ?_
  refine S_val rfl rfl (Y_extract rfl rfl) ?_
  refine S_as rfl rfl rfl ?_
  refine S_as rfl rfl rfl ?_
  refine S_as rfl rfl rfl ?_
  refine S_nx ?_
  refine T_sr ?_
  refine S_callV rfl rfl (bod rfl) (fun w hs => pfixed_any _) rfl rfl ?_
  refine S_mv rfl rfl rfl ?_
  refine S_mv rfl rfl rfl ?_
  refine S_val rfl rfl (Y_toStr (und rfl) (und rfl) (und rfl) rfl (fun _ hs => Rd.st (by assumption) hs)) ?_
  refine S_mv rfl rfl rfl ?_
  refine S_val rfl rfl (Y_toStr (und rfl) (und rfl) (und rfl) rfl (fun _ hs => hs.rowRd 1 rfl)) ?_
  refine S_val rfl rfl (Y_eqlT_t rfl rfl rfl) ?_
  refine S_val rfl rfl (Y_pick_t rfl rfl) ?_
  refine S_mv rfl rfl rfl ?_
  refine S_mv rfl rfl rfl ?_
  refine S_mv rfl rfl rfl ?_
  refine S_val rfl rfl (Y_eql_t rfl rfl (by omega)) ?_
  refine S_val rfl rfl (Y_pick_t rfl rfl) ?_
  refine S_mv rfl rfl rfl ?_
  refine S_mv rfl rfl rfl ?_
  refine S_mv rfl rfl rfl ?_
  refine S_val rfl rfl (Y_eqlB_t (und rfl) rfl rfl) ?_
  refine S_val rfl rfl (Y_pick_t rfl rfl) ?_
  refine S_mv rfl rfl rfl ?_
  refine S_mv rfl rfl rfl ?_
  refine S_val rfl rfl (Y_toStr (und rfl) (und rfl) (und rfl) rfl (fun _ hs => hs.rowRd 0 rfl)) ?_
  refine S_mv rfl rfl rfl ?_
  refine S_val rfl rfl (Y_toStr (und rfl) (und rfl) (und rfl) rfl (fun _ hs => Rd.st (by assumption) hs)) ?_
  refine S_val rfl rfl (Y_eqlT_t rfl rfl rfl) ?_
  refine S_val rfl rfl (Y_pick_t rfl rfl) ?_
  refine S_mv rfl rfl rfl ?_
  refine S_mv rfl rfl rfl ?_
  refine S_callV rfl rfl (bod rfl) (fun w hs => ha _) rfl rfl ?_
  refine S_mv rfl rfl rfl ?_
  refine S_val rfl rfl (Y_eql_f rfl rfl (by assumption)) ?_
  refine S_mv rfl rfl rfl ?_
  refine S_mv rfl rfl rfl ?_
  refine S_val rfl rfl (Y_eql_f rfl rfl (by assumption)) ?_
  refine S_val rfl rfl (Y_pick_f rfl rfl) ?_
  refine S_mv rfl rfl rfl ?_
  refine S_mv rfl rfl rfl ?_
  refine S_val rfl rfl (Y_eql_f rfl rfl (by assumption)) ?_
  refine S_val rfl rfl (Y_pick_f rfl rfl) ?_
  refine S_val rfl rfl (Y_eqlB_t (und rfl) rfl rfl) ?_
  refine S_val rfl rfl (Y_pick_t rfl rfl) ?_
  refine S_as rfl rfl rfl ?_
  refine S_nx ?_
  refine T_ret ?_
  ((first | refine X_fin_ret ?_ | refine X_fin ?_); exact ⟨[_], [], .cons (.tmp rfl) .nil, Emb.nil _, rfl, rfl⟩)
theorem runs_4 (n x gas : Nat) (hx : x < 256 ^ n) (hn : n ≤ 1000) (hgl : gas < 18446744073709551616) (hg : priceN 4 n x ≤ gas) (v : Value) (w : World) (hr : Rd w v .u8 (bel n x)) : Fn Tryd.prog 3 #[.int .i64 4, v, .int .u64 gas] w fun u N => u = .bool true ∧ N = [] := by
  have hbl := bel_length n x
  have pu := fun v w h2 => prun_4 n x _ gas rfl hx (by omega) hgl hg v w h2
  have ru := fun w h2 => rrun_4 n x _ gas rfl hx (by omega) hgl hg v w h2
  have ha := has_yes 4 (.inr (.inl rfl))
  generalize priceN 4 n x = p at *
  clear hx
  have hnil := Rd.nil0 w .u8
  refine Fn_of (args := [.int .i64 4, v, .int .u64 gas]) Tryd.func3 rfl Tryd.ntmps3 Tryd.results3 (by simp) ?_
  refine T_sr ?_
  refine S_as rfl rfl rfl ?_
  refine S_nx ?_
  refine T_seq ?_
  refine T_sr ?_
  refine S_mv rfl rfl rfl ?_
  refine S_val rfl rfl (Y_lenV rfl (und rfl) rfl (fun _ hs => Rd.st (by assumption) hs) (bel_length _ _)) ?_
  refine S_val rfl rfl (Y_gtr_f rfl rfl (by omega)) ?_
  refine S_mv rfl rfl rfl ?_
  refine S_mv rfl rfl rfl ?_
  refine S_val rfl rfl (Y_eql_f rfl rfl (by decide)) ?_
  refine S_mv rfl rfl rfl ?_
  refine S_skip rfl rfl ?_
  refine S_skip rfl rfl ?_
  refine S_skip rfl rfl ?_
  refine S_val rfl rfl (Y_pick_f rfl rfl) ?_
  refine S_val rfl rfl (Y_pick_f rfl rfl) ?_
  refine S_nx ?_
  refine T_cond_false rfl ?_
  refine T_skip ?_
  refine X_seq ?_
  refine T_sr ?_
  refine S_sliceR (und rfl) (siz rfl) (zer rfl) rfl rfl rfl rfl fun _ => ?_
  refine S_mv rfl rfl rfl ?_
  refine S_append 0 rfl (und rfl) (und rfl) (siz rfl) (byt rfl) (zer rfl) rfl rfl rfl (fun _ hs => Rd.st (by assumption) hs) (by simp; omega) rfl rfl rfl fun _ => ?_
  refine S_as rfl rfl rfl ?_
  refine S_nx ?_
  refine T_sr ?_
  refine S_mv rfl rfl rfl ?_
  refine S_mv rfl rfl rfl ?_
  refine S_mv rfl rfl rfl ?_
  rw [List.nil_append]
  refine S_call _ rfl rfl (bod rfl) (fun w hs => pu _ _ (hs.rowRd 0 rfl)) rfl rfl ?_
  rintro _ _ ⟨u, rfl, rfl⟩
  refine S_mv rfl rfl rfl ?_
  refine S_val rfl rfl (Y_extract rfl rfl) ?_
  refine S_val rfl rfl (Y_extract rfl rfl) ?_
  refine S_val rfl rfl (Y_extract rfl rfl) ?_
  refine S_as rfl rfl rfl ?_
  refine S_as rfl rfl rfl ?_
  refine S_as rfl rfl rfl ?_
  refine S_nx ?_
  refine T_sr ?_
  refine S_mv rfl rfl rfl ?_
  refine S_mv rfl rfl rfl ?_
  refine S_mv rfl rfl rfl ?_
  refine S_call _ rfl rfl (bod rfl) (fun w hs => ru _ (Rd.st hr hs)) rfl rfl ?_
  rintro _ _ ⟨rfl, rfl⟩
  refine S_mv rfl rfl rfl ?_
  refine S_val rfl rfl (Y_extract rfl rfl) ?_
  refine S_val rfl rfl (Y_extract rfl rfl) ?_
  refine S_val rfl rfl (Y_extract rfl rfl) ?_
  refine S_as rfl rfl rfl ?_
  refine S_as rfl rfl rfl ?_
  refine S_as rfl rfl rfl ?_
  refine S_nx ?_
  refine T_sr ?_
  refine S_callV rfl rfl (bod rfl) (fun w hs => pfixed_any _) rfl rfl ?_
  refine S_mv rfl rfl rfl ?_
  refine S_mv rfl rfl rfl ?_
  refine S_val rfl rfl (Y_toStr (und rfl) (und rfl) (und rfl) rfl (fun _ hs => hs.rowRd 1 rfl)) ?_
  refine S_mv rfl rfl rfl ?_
  refine S_val rfl rfl (Y_toStr (und rfl) (und rfl) (und rfl) rfl (fun _ hs => Rd.st (by assumption) hs)) ?_
  refine S_val rfl rfl (Y_eqlT_t rfl rfl rfl) ?_
  refine S_val rfl rfl (Y_pick_t rfl rfl) ?_
  refine S_mv rfl rfl rfl ?_
  refine S_mv rfl rfl rfl ?_
  refine S_mv rfl rfl rfl ?_
  refine S_val rfl rfl (Y_eql_t rfl rfl (by omega)) ?_
  refine S_val rfl rfl (Y_pick_t rfl rfl) ?_
  refine S_mv rfl rfl rfl ?_
  refine S_mv rfl rfl rfl ?_
  refine S_mv rfl rfl rfl ?_
  refine S_val rfl rfl (Y_eqlB_t (und rfl) rfl rfl) ?_
  refine S_val rfl rfl (Y_pick_t rfl rfl) ?_
  refine S_mv rfl rfl rfl ?_
  refine S_mv rfl rfl rfl ?_
  refine S_val rfl rfl (Y_toStr (und rfl) (und rfl) (und rfl) rfl (fun _ hs => hs.rowRd 0 rfl)) ?_
  refine S_mv rfl rfl rfl ?_
  refine S_val rfl rfl (Y_toStr (und rfl) (und rfl) (und rfl) rfl (fun _ hs => Rd.st (by assumption) hs)) ?_
  refine S_val rfl rfl (Y_eqlT_t rfl rfl rfl) ?_
  refine S_val rfl rfl (Y_pick_t rfl rfl) ?_
  refine S_mv rfl rfl rfl ?_
  refine S_mv rfl rfl rfl ?_
  refine S_callV rfl rfl (bod rfl) (fun w hs => ha _) rfl rfl ?_
  refine S_mv rfl rfl rfl ?_
  refine S_val rfl rfl (Y_eql_f rfl rfl (by decide)) ?_
  refine S_mv rfl rfl rfl ?_
  refine S_mv rfl rfl rfl ?_
  refine S_val rfl rfl (Y_eql_t rfl rfl (by decide)) ?_
  refine S_val rfl rfl (Y_pick_f rfl rfl) ?_
  refine S_mv rfl rfl rfl ?_
  refine S_skip rfl rfl ?_
  refine S_skip rfl rfl ?_
  refine S_val rfl rfl (Y_pick_t rfl rfl) ?_
  refine S_val rfl rfl (Y_eqlB_t (und rfl) rfl rfl) ?_
  refine S_val rfl rfl (Y_pick_t rfl rfl) ?_
  refine S_as rfl rfl rfl ?_
  refine S_nx ?_
  refine T_ret ?_
  ((first | refine X_fin_ret ?_ | refine X_fin ?_); exact ⟨[_], [], .cons (.tmp rfl) .nil, Emb.nil _, rfl, rfl⟩)
theorem runs_2 (n x gas : Nat) (hx : x < 256 ^ n) (hn : n ≤ 1000) (hgl : gas < 18446744073709551616) (hg : priceN 2 n x ≤ gas) (v : Value) (w : World) (hgb : Rd w (.slice (some ⟨0, 0, none⟩) 64 64) .u32 (bvl KL)) (hr : Rd w v .u8 (bel n x)) : Fn Tryd.prog 3 #[.int .i64 2, v, .int .u64 gas] w fun u N => u = .bool true ∧ N = [] := by
  have hbl := bel_length n x
  obtain ⟨bs, hbs, hbsl⟩ := bel_byl n x
  have pu := fun v w hg2 h2 => prun_2 n x _ gas bs hbs hbsl KL rfl rfl hx (by omega) hgl hg v w hg2 h2
  have ru := fun w h2 => rrun_2 n x _ gas bs hbs hbsl rfl hx (by omega) hgl hg v w h2
  have ha := has_yes 2 (.inl rfl)
  have hz : (byl (sumF KL bs)).length = 32 := by rw [byl_length]; exact outs_length _ _
  generalize byl (sumF KL bs) = Z at *
  generalize bvl KL = K at *
  generalize priceN 2 n x = p at *
  clear hx hbs
  have hnil := Rd.nil0 w .u8
  refine Fn_of (args := [.int .i64 2, v, .int .u64 gas]) Tryd.func3 rfl Tryd.ntmps3 Tryd.results3 (by simp) ?_
  refine T_sr ?_
  refine S_as rfl rfl rfl ?_
  refine S_nx ?_
  refine T_seq ?_
  refine T_sr ?_
  refine S_mv rfl rfl rfl ?_
  refine S_val rfl rfl (Y_lenV rfl (und rfl) rfl (fun _ hs => Rd.st (by assumption) hs) (bel_length _ _)) ?_
  refine S_val rfl rfl (Y_gtr_f rfl rfl (by omega)) ?_
  refine S_mv rfl rfl rfl ?_
  refine S_mv rfl rfl rfl ?_
  refine S_val rfl rfl (Y_eql_f rfl rfl (by decide)) ?_
  refine S_mv rfl rfl rfl ?_
  refine S_skip rfl rfl ?_
  refine S_skip rfl rfl ?_
  refine S_skip rfl rfl ?_
  refine S_val rfl rfl (Y_pick_f rfl rfl) ?_
  refine S_val rfl rfl (Y_pick_f rfl rfl) ?_
  refine S_nx ?_
  refine T_cond_false rfl ?_
  refine T_skip ?_
  refine X_seq ?_
  refine T_sr ?_
  refine S_sliceR (und rfl) (siz rfl) (zer rfl) rfl rfl rfl rfl fun _ => ?_
  refine S_mv rfl rfl rfl ?_
  refine S_append 0 rfl (und rfl) (und rfl) (siz rfl) (byt rfl) (zer rfl) rfl rfl rfl (fun _ hs => Rd.st (by assumption) hs) (by simp; omega) rfl rfl rfl fun _ => ?_
  refine S_as rfl rfl rfl ?_
  refine S_nx ?_
  refine T_sr ?_
  refine S_mv rfl rfl rfl ?_
  refine S_mv rfl rfl rfl ?_
  refine S_mv rfl rfl rfl ?_
  rw [List.nil_append]
  refine S_call _ rfl rfl (bod rfl) (fun w hs => pu _ _ (Rd.st hgb hs) (hs.rowRd 0 rfl)) rfl rfl ?_
  rintro _ _ ⟨b, rfl, rfl⟩
  refine S_conv 1 rfl (fun _ hb => row.of_blk hb hz) ?_
  refine S_mv rfl rfl rfl ?_
  refine S_val rfl rfl (Y_extract rfl rfl) ?_
  refine S_val rfl rfl (Y_extract rfl rfl) ?_
  refine S_val rfl rfl (Y_extract rfl rfl) ?_
  refine S_as rfl rfl rfl ?_
  refine S_as rfl rfl rfl ?_
  refine S_as rfl rfl rfl ?_
  refine S_nx ?_
  refine T_sr ?_
  refine S_mv rfl rfl rfl ?_
  refine S_mv rfl rfl rfl ?_
  refine S_mv rfl rfl rfl ?_
  refine S_call _ rfl rfl (bod rfl) (fun w hs => ru _ (Rd.st hr hs)) rfl rfl ?_
  rintro _ _ ⟨u, rfl, rfl⟩
  refine S_mv rfl rfl rfl ?_
  refine S_val rfl rfl (Y_extract rfl rfl) ?_
  refine S_val rfl rfl (Y_extract rfl rfl) ?_
  refine S_val rfl rfl (Y_extract rfl rfl) ?_
  refine S_as rfl rfl rfl ?_
  refine S_as rfl rfl rfl ?_
  refine S_as rfl rfl rfl ?_
  refine S_nx ?_
  refine T_sr ?_
  refine S_callV rfl rfl (bod rfl) (fun w hs => pfixed_any _) rfl rfl ?_
  refine S_mv rfl rfl rfl ?_
  refine S_mv rfl rfl rfl ?_
  refine S_val rfl rfl (Y_toStr (und rfl) (und rfl) (und rfl) rfl (fun _ hs => hs.rowRd 1 rfl)) ?_
  refine S_mv rfl rfl rfl ?_
  refine S_val rfl rfl (Y_toStr (und rfl) (und rfl) (und rfl) rfl (fun _ hs => hs.rowRd 2 rfl)) ?_
  refine S_val rfl rfl (Y_eqlT_t rfl rfl rfl) ?_
  refine S_val rfl rfl (Y_pick_t rfl rfl) ?_
  refine S_mv rfl rfl rfl ?_
  refine S_mv rfl rfl rfl ?_
  refine S_mv rfl rfl rfl ?_
  refine S_val rfl rfl (Y_eql_t rfl rfl (by omega)) ?_
  refine S_val rfl rfl (Y_pick_t rfl rfl) ?_
  refine S_mv rfl rfl rfl ?_
  refine S_mv rfl rfl rfl ?_
  refine S_mv rfl rfl rfl ?_
  refine S_val rfl rfl (Y_eqlB_t (und rfl) rfl rfl) ?_
  refine S_val rfl rfl (Y_pick_t rfl rfl) ?_
  refine S_mv rfl rfl rfl ?_
  refine S_mv rfl rfl rfl ?_
  refine S_val rfl rfl (Y_toStr (und rfl) (und rfl) (und rfl) rfl (fun _ hs => hs.rowRd 0 rfl)) ?_
  refine S_mv rfl rfl rfl ?_
  refine S_val rfl rfl (Y_toStr (und rfl) (und rfl) (und rfl) rfl (fun _ hs => Rd.st (by assumption) hs)) ?_
  refine S_val rfl rfl (Y_eqlT_t rfl rfl rfl) ?_
  refine S_val rfl rfl (Y_pick_t rfl rfl) ?_
  refine S_mv rfl rfl rfl ?_
  refine S_mv rfl rfl rfl ?_
  refine S_callV rfl rfl (bod rfl) (fun w hs => ha _) rfl rfl ?_
  refine S_mv rfl rfl rfl ?_
  refine S_val rfl rfl (Y_eql_t rfl rfl (by decide)) ?_
  refine S_mv rfl rfl rfl ?_
  refine S_skip rfl rfl ?_
  refine S_skip rfl rfl ?_
  refine S_val rfl rfl (Y_pick_t rfl rfl) ?_
  refine S_mv rfl rfl rfl ?_
  refine S_skip rfl rfl ?_
  refine S_skip rfl rfl ?_
  refine S_val rfl rfl (Y_pick_t rfl rfl) ?_
  refine S_val rfl rfl (Y_eqlB_t (und rfl) rfl rfl) ?_
  refine S_val rfl rfl (Y_pick_t rfl rfl) ?_
  refine S_as rfl rfl rfl ?_
  refine S_nx ?_
  refine T_ret ?_
  ((first | refine X_fin_ret ?_ | refine X_fin ?_); exact ⟨[_], [], .cons (.tmp rfl) .nil, Emb.nil _, rfl, rfl⟩)
theorem runs_5low (n x gas : Nat) (hx : x < 256 ^ n) (hn : n ≤ 1000) (hg : gas < priceN 5 n x) (v : Value) (w : World) (hr : Rd w v .u8 (bel n x)) : Fn Tryd.prog 3 #[.int .i64 5, v, .int .u64 gas] w fun u N => u = .bool true ∧ N = [] := by
  have hbl := bel_length n x
  have hpl := priceN_lt 5 n x (by omega)
  have pu := fun v w h => prun_low 5 n x _ gas rfl hx (by omega) hpl hg v w h
  have ru := fun w h => rrun_low 5 n x _ gas rfl hx (by omega) hpl hg v w h
  clear hpl hg
  have sh := fun w h => short16_any n x hx (by omega) v w h
  have ha := has_yes 5 (.inr (.inr rfl))
  clear hx
  have hnil := Rd.nil0 w .u8
  refine Fn_of (args := [.int .i64 5, v, .int .u64 gas]) Tryd.func3 rfl Tryd.ntmps3 Tryd.results3 (by simp) ?_
  refine T_sr ?_
  refine S_as rfl rfl rfl ?_
  refine S_nx ?_
  refine T_seq ?_
  refine T_sr ?_
  refine S_mv rfl rfl rfl ?_
  refine S_val rfl rfl (Y_lenV rfl (und rfl) rfl (fun _ hs => Rd.st (by assumption) hs) (bel_length _ _)) ?_
  refine S_val rfl rfl (Y_gtr_f rfl rfl (by omega)) ?_
  refine S_mv rfl rfl rfl ?_
  refine S_mv rfl rfl rfl ?_
  refine S_val rfl rfl (Y_eql_t rfl rfl (by decide)) ?_
  refine S_mv rfl rfl rfl ?_
  refine S_mv rfl rfl rfl ?_
  refine S_call _ rfl rfl (bod rfl) (fun w hs => sh _ (Rd.st hr hs)) rfl rfl ?_
  rintro _ _ ⟨⟨b, rfl⟩, rfl⟩
  cases b
  · refine S_val rfl rfl (Y_not rfl rfl) ?_
    refine S_val rfl rfl (Y_pick_t rfl rfl) ?_
    refine S_val rfl rfl (Y_pick_f rfl rfl) ?_
    refine S_nx ?_
    refine T_cond_true rfl ?_
    refine T_sr ?_
    refine S_callV rfl rfl (bod rfl) (fun w hs => pfixed_any _) rfl rfl ?_
    refine S_as rfl rfl rfl ?_
    refine S_nx ?_
    refine T_ret ?_
    refine X_seq_ret ?_
    ((first | refine X_fin_ret ?_ | refine X_fin ?_); exact ⟨[_], [], .cons (.tmp rfl) .nil, Emb.nil _, rfl, rfl⟩)
  · refine S_val rfl rfl (Y_not rfl rfl) ?_
    refine S_val rfl rfl (Y_pick_t rfl rfl) ?_
    refine S_val rfl rfl (Y_pick_f rfl rfl) ?_
    refine S_nx ?_
    refine T_cond_false rfl ?_
    refine T_skip ?_
    refine X_seq ?_
    refine T_sr ?_
    refine S_sliceR (und rfl) (siz rfl) (zer rfl) rfl rfl rfl rfl fun _ => ?_
    refine S_mv rfl rfl rfl ?_
    refine S_append 0 rfl (und rfl) (und rfl) (siz rfl) (byt rfl) (zer rfl) rfl rfl rfl (fun _ hs => Rd.st (by assumption) hs) (by simp; omega) rfl rfl rfl fun _ => ?_
    refine S_as rfl rfl rfl ?_
    refine S_nx ?_
    refine T_sr ?_
    refine S_mv rfl rfl rfl ?_
    refine S_mv rfl rfl rfl ?_
    refine S_mv rfl rfl rfl ?_
    rw [List.nil_append]
    refine S_call _ rfl rfl (bod rfl) (fun w hs => pu _ _ (hs.rowRd 0 rfl)) rfl rfl ?_
    rintro _ _ ⟨rfl, rfl⟩
    refine S_mv rfl rfl rfl ?_
    refine S_val rfl rfl (Y_extract rfl rfl) ?_
    refine S_val rfl rfl (Y_extract rfl rfl) ?_
    refine S_val rfl rfl (Y_extract rfl rfl) ?_
    refine S_as rfl rfl rfl ?_
    refine S_as rfl rfl rfl ?_
    refine S_as rfl rfl rfl ?_
    refine S_nx ?_
    refine T_sr ?_
    refine S_mv rfl rfl rfl ?_
    refine S_mv rfl rfl rfl ?_
    refine S_mv rfl rfl rfl ?_
    refine S_call _ rfl rfl (bod rfl) (fun w hs => ru _ (Rd.st hr hs)) rfl rfl ?_
    rintro _ _ ⟨u, rfl, rfl⟩
    refine S_mv rfl rfl rfl ?_
    refine S_val rfl rfl (Y_extract rfl rfl) ?_
    refine S_val rfl rfl (Y_extract rfl rfl) ?_
    refine S_val rfl rfl (Y_extract rfl rfl) ?_
    refine S_as rfl rfl rfl ?_
    refine S_as rfl rfl rfl ?_
    refine S_as rfl rfl rfl ?_
    refine S_nx ?_
    refine T_sr ?_
    refine S_callV rfl rfl (bod rfl) (fun w hs => pfixed_any _) rfl rfl ?_
    refine S_mv rfl rfl rfl ?_
    refine S_mv rfl rfl rfl ?_
    refine S_val rfl rfl (Y_toStr (und rfl) (und rfl) (und rfl) rfl (fun _ hs => Rd.st (by assumption) hs)) ?_
    refine S_mv rfl rfl rfl ?_
    refine S_val rfl rfl (Y_toStr (und rfl) (und rfl) (und rfl) rfl (fun _ hs => hs.rowRd 1 rfl)) ?_
    refine S_val rfl rfl (Y_eqlT_t rfl rfl rfl) ?_
    refine S_val rfl rfl (Y_pick_t rfl rfl) ?_
    refine S_mv rfl rfl rfl ?_
    refine S_mv rfl rfl rfl ?_
    refine S_mv rfl rfl rfl ?_
    refine S_val rfl rfl (Y_eql_t rfl rfl (by decide)) ?_
    refine S_val rfl rfl (Y_pick_t rfl rfl) ?_
    refine S_mv rfl rfl rfl ?_
    refine S_mv rfl rfl rfl ?_
    refine S_mv rfl rfl rfl ?_
    refine S_val rfl rfl (Y_eqlB_t (und rfl) rfl rfl) ?_
    refine S_val rfl rfl (Y_pick_t rfl rfl) ?_
    refine S_mv rfl rfl rfl ?_
    refine S_mv rfl rfl rfl ?_
    refine S_val rfl rfl (Y_toStr (und rfl) (und rfl) (und rfl) rfl (fun _ hs => hs.rowRd 0 rfl)) ?_
    refine S_mv rfl rfl rfl ?_
    refine S_val rfl rfl (Y_toStr (und rfl) (und rfl) (und rfl) rfl (fun _ hs => Rd.st (by assumption) hs)) ?_
    refine S_val rfl rfl (Y_eqlT_t rfl rfl rfl) ?_
    refine S_val rfl rfl (Y_pick_t rfl rfl) ?_
    refine S_mv rfl rfl rfl ?_
    refine S_mv rfl rfl rfl ?_
    refine S_callV rfl rfl (bod rfl) (fun w hs => ha _) rfl rfl ?_
    refine S_mv rfl rfl rfl ?_
    refine S_val rfl rfl (Y_eql_f rfl rfl (by decide)) ?_
    refine S_mv rfl rfl rfl ?_
    refine S_mv rfl rfl rfl ?_
    refine S_val rfl rfl (Y_eql_f rfl rfl (by decide)) ?_
    refine S_val rfl rfl (Y_pick_f rfl rfl) ?_
    refine S_mv rfl rfl rfl ?_
    refine S_mv rfl rfl rfl ?_
    refine S_val rfl rfl (Y_eql_t rfl rfl (by decide)) ?_
    refine S_val rfl rfl (Y_pick_f rfl rfl) ?_
    refine S_val rfl rfl (Y_eqlB_t (und rfl) rfl rfl) ?_
    refine S_val rfl rfl (Y_pick_t rfl rfl) ?_
    refine S_as rfl rfl rfl ?_
    refine S_nx ?_
    refine T_ret ?_
    ((first | refine X_fin_ret ?_ | refine X_fin ?_); exact ⟨[_], [], .cons (.tmp rfl) .nil, Emb.nil _, rfl, rfl⟩)
theorem runs_5 (n x gas : Nat) (hx : x < 256 ^ n) (hn : n ≤ 1000) (hgl : gas < 18446744073709551616) (hg : priceN 5 n x ≤ gas) (v : Value) (w : World) (hr : Rd w v .u8 (bel n x)) : Fn Tryd.prog 3 #[.int .i64 5, v, .int .u64 gas] w fun u N => u = .bool true ∧ N = [] := by
  have hbl := bel_length n x
  by_cases hA : lenN n x 0 = 0 ∧ lenN n x 2 = 0
  · have pu := fun v w h2 => prun_5nil n x _ gas rfl hx (by omega) hgl hg v w h2 hA
    have ru := fun w h2 => rrun_5nil n x _ gas rfl hx (by omega) hgl hg v w h2 hA
    generalize priceN 5 n x = p at *
    clear hA
    have sh := fun w h => short16_any n x hx (by omega) v w h
    have ha := has_yes 5 (.inr (.inr rfl))
    clear hx
    have hnil := Rd.nil0 w .u8
    refine Fn_of (args := [.int .i64 5, v, .int .u64 gas]) Tryd.func3 rfl Tryd.ntmps3 Tryd.results3 (by simp) ?_
    refine T_sr ?_
    refine S_as rfl rfl rfl ?_
    refine S_nx ?_
    refine T_seq ?_
    refine T_sr ?_
    refine S_mv rfl rfl rfl ?_
    refine S_val rfl rfl (Y_lenV rfl (und rfl) rfl (fun _ hs => Rd.st (by assumption) hs) (bel_length _ _)) ?_
    refine S_val rfl rfl (Y_gtr_f rfl rfl (by omega)) ?_
    refine S_mv rfl rfl rfl ?_
    refine S_mv rfl rfl rfl ?_
    refine S_val rfl rfl (Y_eql_t rfl rfl (by decide)) ?_
    refine S_mv rfl rfl rfl ?_
    refine S_mv rfl rfl rfl ?_
    refine S_call _ rfl rfl (bod rfl) (fun w hs => sh _ (Rd.st hr hs)) rfl rfl ?_
    rintro _ _ ⟨⟨b, rfl⟩, rfl⟩
    cases b
    · refine S_val rfl rfl (Y_not rfl rfl) ?_
      refine S_val rfl rfl (Y_pick_t rfl rfl) ?_
      refine S_val rfl rfl (Y_pick_f rfl rfl) ?_
      refine S_nx ?_
      refine T_cond_true rfl ?_
      refine T_sr ?_
      refine S_callV rfl rfl (bod rfl) (fun w hs => pfixed_any _) rfl rfl ?_
      refine S_as rfl rfl rfl ?_
      refine S_nx ?_
      refine T_ret ?_
      refine X_seq_ret ?_
      ((first | refine X_fin_ret ?_ | refine X_fin ?_); exact ⟨[_], [], .cons (.tmp rfl) .nil, Emb.nil _, rfl, rfl⟩)
    · refine S_val rfl rfl (Y_not rfl rfl) ?_
      refine S_val rfl rfl (Y_pick_t rfl rfl) ?_
      refine S_val rfl rfl (Y_pick_f rfl rfl) ?_
      refine S_nx ?_
      refine T_cond_false rfl ?_
      refine T_skip ?_
      refine X_seq ?_
      refine T_sr ?_
      refine S_sliceR (und rfl) (siz rfl) (zer rfl) rfl rfl rfl rfl fun _ => ?_
      refine S_mv rfl rfl rfl ?_
      refine S_append 0 rfl (und rfl) (und rfl) (siz rfl) (byt rfl) (zer rfl) rfl rfl rfl (fun _ hs => Rd.st (by assumption) hs) (by simp; omega) rfl rfl rfl fun _ => ?_
      refine S_as rfl rfl rfl ?_
      refine S_nx ?_
      refine T_sr ?_
      refine S_mv rfl rfl rfl ?_
      refine S_mv rfl rfl rfl ?_
      refine S_mv rfl rfl rfl ?_
      rw [List.nil_append]
      refine S_call _ rfl rfl (bod rfl) (fun w hs => pu _ _ (hs.rowRd 0 rfl)) rfl rfl ?_
      rintro _ _ ⟨rfl, rfl⟩
      refine S_mv rfl rfl rfl ?_
      refine S_val rfl rfl (Y_extract rfl rfl) ?_
      refine S_val rfl rfl (Y_extract rfl rfl) ?_
      refine S_val rfl rfl (Y_extract rfl rfl) ?_
      refine S_as rfl rfl rfl ?_
      refine S_as rfl rfl rfl ?_
      refine S_as rfl rfl rfl ?_
      refine S_nx ?_
      refine T_sr ?_
      refine S_mv rfl rfl rfl ?_
      refine S_mv rfl rfl rfl ?_
      refine S_mv rfl rfl rfl ?_
      refine S_call _ rfl rfl (bod rfl) (fun w hs => ru _ (Rd.st hr hs)) rfl rfl ?_
      rintro _ _ ⟨u, rfl, rfl⟩
      refine S_mv rfl rfl rfl ?_
      refine S_val rfl rfl (Y_extract rfl rfl) ?_
      refine S_val rfl rfl (Y_extract rfl rfl) ?_
      refine S_val rfl rfl (Y_extract rfl rfl) ?_
      refine S_as rfl rfl rfl ?_
      refine S_as rfl rfl rfl ?_
      refine S_as rfl rfl rfl ?_
      refine S_nx ?_
      refine T_sr ?_
      refine S_callV rfl rfl (bod rfl) (fun w hs => pfixed_any _) rfl rfl ?_
      refine S_mv rfl rfl rfl ?_
      refine S_mv rfl rfl rfl ?_
      refine S_val rfl rfl (Y_toStr (und rfl) (und rfl) (und rfl) rfl (fun _ hs => Rd.st (by assumption) hs)) ?_
      refine S_mv rfl rfl rfl ?_
      refine S_val rfl rfl (Y_toStr (und rfl) (und rfl) (und rfl) rfl (fun _ hs => hs.rowRd 1 rfl)) ?_
      refine S_val rfl rfl (Y_eqlT_t rfl rfl rfl) ?_
      refine S_val rfl rfl (Y_pick_t rfl rfl) ?_
      refine S_mv rfl rfl rfl ?_
      refine S_mv rfl rfl rfl ?_
      refine S_mv rfl rfl rfl ?_
      refine S_val rfl rfl (Y_eql_t rfl rfl (by omega)) ?_
      refine S_val rfl rfl (Y_pick_t rfl rfl) ?_
      refine S_mv rfl rfl rfl ?_
      refine S_mv rfl rfl rfl ?_
      refine S_mv rfl rfl rfl ?_
      refine S_val rfl rfl (Y_eqlB_t (und rfl) rfl rfl) ?_
      refine S_val rfl rfl (Y_pick_t rfl rfl) ?_
      refine S_mv rfl rfl rfl ?_
      refine S_mv rfl rfl rfl ?_
      refine S_val rfl rfl (Y_toStr (und rfl) (und rfl) (und rfl) rfl (fun _ hs => hs.rowRd 0 rfl)) ?_
      refine S_mv rfl rfl rfl ?_
      refine S_val rfl rfl (Y_toStr (und rfl) (und rfl) (und rfl) rfl (fun _ hs => Rd.st (by assumption) hs)) ?_
      refine S_val rfl rfl (Y_eqlT_t rfl rfl rfl) ?_
      refine S_val rfl rfl (Y_pick_t rfl rfl) ?_
      refine S_mv rfl rfl rfl ?_
      refine S_mv rfl rfl rfl ?_
      refine S_callV rfl rfl (bod rfl) (fun w hs => ha _) rfl rfl ?_
      refine S_mv rfl rfl rfl ?_
      refine S_val rfl rfl (Y_eql_f rfl rfl (by decide)) ?_
      refine S_mv rfl rfl rfl ?_
      refine S_mv rfl rfl rfl ?_
      refine S_val rfl rfl (Y_eql_f rfl rfl (by decide)) ?_
      refine S_val rfl rfl (Y_pick_f rfl rfl) ?_
      refine S_mv rfl rfl rfl ?_
      refine S_mv rfl rfl rfl ?_
      refine S_val rfl rfl (Y_eql_t rfl rfl (by decide)) ?_
      refine S_val rfl rfl (Y_pick_f rfl rfl) ?_
      refine S_val rfl rfl (Y_eqlB_t (und rfl) rfl rfl) ?_
      refine S_val rfl rfl (Y_pick_t rfl rfl) ?_
      refine S_as rfl rfl rfl ?_
      refine S_nx ?_
      refine T_ret ?_
      ((first | refine X_fin_ret ?_ | refine X_fin ?_); exact ⟨[_], [], .cons (.tmp rfl) .nil, Emb.nil _, rfl, rfl⟩)
  · by_cases hl : 64 < lenN n x 0 ∨ 64 < lenN n x 1 ∨ 64 < lenN n x 2
    · have pu := fun v w h2 => prun_5long n x _ gas rfl hx (by omega) hgl hg v w h2 hA hl
      have ru := fun w h2 => rrun_5long n x _ gas rfl hx (by omega) hgl hg v w h2 hA hl
      generalize priceN 5 n x = p at *
      clear hA hl
      have sh := fun w h => short16_any n x hx (by omega) v w h
      have ha := has_yes 5 (.inr (.inr rfl))
      clear hx
      have hnil := Rd.nil0 w .u8
      refine Fn_of (args := [.int .i64 5, v, .int .u64 gas]) Tryd.func3 rfl Tryd.ntmps3 Tryd.results3 (by simp) ?_
      refine T_sr ?_
      refine S_as rfl rfl rfl ?_
      refine S_nx ?_
      refine T_seq ?_
      refine T_sr ?_
      refine S_mv rfl rfl rfl ?_
      refine S_val rfl rfl (Y_lenV rfl (und rfl) rfl (fun _ hs => Rd.st (by assumption) hs) (bel_length _ _)) ?_
      refine S_val rfl rfl (Y_gtr_f rfl rfl (by omega)) ?_
      refine S_mv rfl rfl rfl ?_
      refine S_mv rfl rfl rfl ?_
      refine S_val rfl rfl (Y_eql_t rfl rfl (by decide)) ?_
      refine S_mv rfl rfl rfl ?_
      refine S_mv rfl rfl rfl ?_
      refine S_call _ rfl rfl (bod rfl) (fun w hs => sh _ (Rd.st hr hs)) rfl rfl ?_
      rintro _ _ ⟨⟨b, rfl⟩, rfl⟩
      cases b
      · refine S_val rfl rfl (Y_not rfl rfl) ?_
        refine S_val rfl rfl (Y_pick_t rfl rfl) ?_
        refine S_val rfl rfl (Y_pick_f rfl rfl) ?_
        refine S_nx ?_
        refine T_cond_true rfl ?_
        refine T_sr ?_
        refine S_callV rfl rfl (bod rfl) (fun w hs => pfixed_any _) rfl rfl ?_
        refine S_as rfl rfl rfl ?_
        refine S_nx ?_
        refine T_ret ?_
        refine X_seq_ret ?_
        ((first | refine X_fin_ret ?_ | refine X_fin ?_); exact ⟨[_], [], .cons (.tmp rfl) .nil, Emb.nil _, rfl, rfl⟩)
      · refine S_val rfl rfl (Y_not rfl rfl) ?_
        refine S_val rfl rfl (Y_pick_t rfl rfl) ?_
        refine S_val rfl rfl (Y_pick_f rfl rfl) ?_
        refine S_nx ?_
        refine T_cond_false rfl ?_
        refine T_skip ?_
        refine X_seq ?_
        refine T_sr ?_
        refine S_sliceR (und rfl) (siz rfl) (zer rfl) rfl rfl rfl rfl fun _ => ?_
        refine S_mv rfl rfl rfl ?_
        refine S_append 0 rfl (und rfl) (und rfl) (siz rfl) (byt rfl) (zer rfl) rfl rfl rfl (fun _ hs => Rd.st (by assumption) hs) (by simp; omega) rfl rfl rfl fun _ => ?_
        refine S_as rfl rfl rfl ?_
        refine S_nx ?_
        refine T_sr ?_
        refine S_mv rfl rfl rfl ?_
        refine S_mv rfl rfl rfl ?_
        refine S_mv rfl rfl rfl ?_
        rw [List.nil_append]
        refine S_call _ rfl rfl (bod rfl) (fun w hs => pu _ _ (hs.rowRd 0 rfl)) rfl rfl ?_
        rintro _ _ ⟨rfl, rfl⟩
        refine S_mv rfl rfl rfl ?_
        refine S_val rfl rfl (Y_extract rfl rfl) ?_
        refine S_val rfl rfl (Y_extract rfl rfl) ?_
        refine S_val rfl rfl (Y_extract rfl rfl) ?_
        refine S_as rfl rfl rfl ?_
        refine S_as rfl rfl rfl ?_
        refine S_as rfl rfl rfl ?_
        refine S_nx ?_
        refine T_sr ?_
        refine S_mv rfl rfl rfl ?_
        refine S_mv rfl rfl rfl ?_
        refine S_mv rfl rfl rfl ?_
        refine S_call _ rfl rfl (bod rfl) (fun w hs => ru _ (Rd.st hr hs)) rfl rfl ?_
        rintro _ _ ⟨u, rfl, rfl⟩
        refine S_mv rfl rfl rfl ?_
        refine S_val rfl rfl (Y_extract rfl rfl) ?_
        refine S_val rfl rfl (Y_extract rfl rfl) ?_
        refine S_val rfl rfl (Y_extract rfl rfl) ?_
        refine S_as rfl rfl rfl ?_
        refine S_as rfl rfl rfl ?_
        refine S_as rfl rfl rfl ?_
        refine S_nx ?_
        refine T_sr ?_
        refine S_callV rfl rfl (bod rfl) (fun w hs => pfixed_any _) rfl rfl ?_
        refine S_mv rfl rfl rfl ?_
        refine S_mv rfl rfl rfl ?_
        refine S_val rfl rfl (Y_toStr (und rfl) (und rfl) (und rfl) rfl (fun _ hs => Rd.st (by assumption) hs)) ?_
        refine S_mv rfl rfl rfl ?_
        refine S_val rfl rfl (Y_toStr (und rfl) (und rfl) (und rfl) rfl (fun _ hs => hs.rowRd 1 rfl)) ?_
        refine S_val rfl rfl (Y_eqlT_t rfl rfl rfl) ?_
        refine S_val rfl rfl (Y_pick_t rfl rfl) ?_
        refine S_mv rfl rfl rfl ?_
        refine S_mv rfl rfl rfl ?_
        refine S_mv rfl rfl rfl ?_
        refine S_val rfl rfl (Y_eql_t rfl rfl (by decide)) ?_
        refine S_val rfl rfl (Y_pick_t rfl rfl) ?_
        refine S_mv rfl rfl rfl ?_
        refine S_mv rfl rfl rfl ?_
        refine S_mv rfl rfl rfl ?_
        refine S_val rfl rfl (Y_eqlB_t (und rfl) rfl rfl) ?_
        refine S_val rfl rfl (Y_pick_t rfl rfl) ?_
        refine S_mv rfl rfl rfl ?_
        refine S_mv rfl rfl rfl ?_
        refine S_val rfl rfl (Y_toStr (und rfl) (und rfl) (und rfl) rfl (fun _ hs => hs.rowRd 0 rfl)) ?_
        refine S_mv rfl rfl rfl ?_
        refine S_val rfl rfl (Y_toStr (und rfl) (und rfl) (und rfl) rfl (fun _ hs => Rd.st (by assumption) hs)) ?_
        refine S_val rfl rfl (Y_eqlT_t rfl rfl rfl) ?_
        refine S_val rfl rfl (Y_pick_t rfl rfl) ?_
        refine S_mv rfl rfl rfl ?_
        refine S_mv rfl rfl rfl ?_
        refine S_callV rfl rfl (bod rfl) (fun w hs => ha _) rfl rfl ?_
        refine S_mv rfl rfl rfl ?_
        refine S_val rfl rfl (Y_eql_f rfl rfl (by decide)) ?_
        refine S_mv rfl rfl rfl ?_
        refine S_mv rfl rfl rfl ?_
        refine S_val rfl rfl (Y_eql_f rfl rfl (by decide)) ?_
        refine S_val rfl rfl (Y_pick_f rfl rfl) ?_
        refine S_mv rfl rfl rfl ?_
        refine S_mv rfl rfl rfl ?_
        refine S_val rfl rfl (Y_eql_t rfl rfl (by decide)) ?_
        refine S_val rfl rfl (Y_pick_f rfl rfl) ?_
        refine S_val rfl rfl (Y_eqlB_t (und rfl) rfl rfl) ?_
        refine S_val rfl rfl (Y_pick_t rfl rfl) ?_
        refine S_as rfl rfl rfl ?_
        refine S_nx ?_
        refine T_ret ?_
        ((first | refine X_fin_ret ?_ | refine X_fin ?_); exact ⟨[_], [], .cons (.tmp rfl) .nil, Emb.nil _, rfl, rfl⟩)
    · have pu := fun v w h2 => prun_5pow n x _ gas rfl hx (by omega) hgl hg v w h2 hA (by omega) (by omega) (by omega)
      have ru := fun w h2 => rrun_5pow n x _ gas rfl hx (by omega) hgl hg v w h2 hA (by omega) (by omega) (by omega)
      generalize priceN 5 n x = p at *
      generalize bel (lenN n x 2) (runN n x) = z at *
      clear hA hl
      have sh := fun w h => short16_any n x hx (by omega) v w h
      have ha := has_yes 5 (.inr (.inr rfl))
      clear hx
      have hnil := Rd.nil0 w .u8
      refine Fn_of (args := [.int .i64 5, v, .int .u64 gas]) Tryd.func3 rfl Tryd.ntmps3 Tryd.results3 (by simp) ?_
      refine T_sr ?_
      refine S_as rfl rfl rfl ?_
      refine S_nx ?_
      refine T_seq ?_
      refine T_sr ?_
      refine S_mv rfl rfl rfl ?_
      refine S_val rfl rfl (Y_lenV rfl (und rfl) rfl (fun _ hs => Rd.st (by assumption) hs) (bel_length _ _)) ?_
      refine S_val rfl rfl (Y_gtr_f rfl rfl (by omega)) ?_
      refine S_mv rfl rfl rfl ?_
      refine S_mv rfl rfl rfl ?_
      refine S_val rfl rfl (Y_eql_t rfl rfl (by decide)) ?_
      refine S_mv rfl rfl rfl ?_
      refine S_mv rfl rfl rfl ?_
      refine S_call _ rfl rfl (bod rfl) (fun w hs => sh _ (Rd.st hr hs)) rfl rfl ?_
      rintro _ _ ⟨⟨b, rfl⟩, rfl⟩
      cases b
      · refine S_val rfl rfl (Y_not rfl rfl) ?_
        refine S_val rfl rfl (Y_pick_t rfl rfl) ?_
        refine S_val rfl rfl (Y_pick_f rfl rfl) ?_
        refine S_nx ?_
        refine T_cond_true rfl ?_
        refine T_sr ?_
        refine S_callV rfl rfl (bod rfl) (fun w hs => pfixed_any _) rfl rfl ?_
        refine S_as rfl rfl rfl ?_
        refine S_nx ?_
        refine T_ret ?_
        refine X_seq_ret ?_
        ((first | refine X_fin_ret ?_ | refine X_fin ?_); exact ⟨[_], [], .cons (.tmp rfl) .nil, Emb.nil _, rfl, rfl⟩)
      · refine S_val rfl rfl (Y_not rfl rfl) ?_
        refine S_val rfl rfl (Y_pick_t rfl rfl) ?_
        refine S_val rfl rfl (Y_pick_f rfl rfl) ?_
        refine S_nx ?_
        refine T_cond_false rfl ?_
        refine T_skip ?_
        refine X_seq ?_
        refine T_sr ?_
        refine S_sliceR (und rfl) (siz rfl) (zer rfl) rfl rfl rfl rfl fun _ => ?_
        refine S_mv rfl rfl rfl ?_
        refine S_append 0 rfl (und rfl) (und rfl) (siz rfl) (byt rfl) (zer rfl) rfl rfl rfl (fun _ hs => Rd.st (by assumption) hs) (by simp; omega) rfl rfl rfl fun _ => ?_
        refine S_as rfl rfl rfl ?_
        refine S_nx ?_
        refine T_sr ?_
        refine S_mv rfl rfl rfl ?_
        refine S_mv rfl rfl rfl ?_
        refine S_mv rfl rfl rfl ?_
        rw [List.nil_append]
        refine S_call _ rfl rfl (bod rfl) (fun w hs => pu _ _ (hs.rowRd 0 rfl)) rfl rfl ?_
        rintro _ _ ⟨u, rfl, rfl⟩
        refine S_mv rfl rfl rfl ?_
        refine S_val rfl rfl (Y_extract rfl rfl) ?_
        refine S_val rfl rfl (Y_extract rfl rfl) ?_
        refine S_val rfl rfl (Y_extract rfl rfl) ?_
        refine S_as rfl rfl rfl ?_
        refine S_as rfl rfl rfl ?_
        refine S_as rfl rfl rfl ?_
        refine S_nx ?_
        refine T_sr ?_
        refine S_mv rfl rfl rfl ?_
        refine S_mv rfl rfl rfl ?_
        refine S_mv rfl rfl rfl ?_
        refine S_call _ rfl rfl (bod rfl) (fun w hs => ru _ (Rd.st hr hs)) rfl rfl ?_
        rintro _ _ ⟨u2, rfl, rfl⟩
        refine S_mv rfl rfl rfl ?_
        refine S_val rfl rfl (Y_extract rfl rfl) ?_
        refine S_val rfl rfl (Y_extract rfl rfl) ?_
        refine S_val rfl rfl (Y_extract rfl rfl) ?_
        refine S_as rfl rfl rfl ?_
        refine S_as rfl rfl rfl ?_
        refine S_as rfl rfl rfl ?_
        refine S_nx ?_
        refine T_sr ?_
        refine S_callV rfl rfl (bod rfl) (fun w hs => pfixed_any _) rfl rfl ?_
        refine S_mv rfl rfl rfl ?_
        refine S_mv rfl rfl rfl ?_
        refine S_val rfl rfl (Y_toStr (und rfl) (und rfl) (und rfl) rfl (fun _ hs => hs.rowRd 1 rfl)) ?_
        refine S_mv rfl rfl rfl ?_
        refine S_val rfl rfl (Y_toStr (und rfl) (und rfl) (und rfl) rfl (fun _ hs => hs.rowRd 2 rfl)) ?_
        refine S_val rfl rfl (Y_eqlT_t rfl rfl rfl) ?_
        refine S_val rfl rfl (Y_pick_t rfl rfl) ?_
        refine S_mv rfl rfl rfl ?_
        refine S_mv rfl rfl rfl ?_
        refine S_mv rfl rfl rfl ?_
        refine S_val rfl rfl (Y_eql_t rfl rfl (by omega)) ?_
        refine S_val rfl rfl (Y_pick_t rfl rfl) ?_
        refine S_mv rfl rfl rfl ?_
        refine S_mv rfl rfl rfl ?_
        refine S_mv rfl rfl rfl ?_
        refine S_val rfl rfl (Y_eqlB_t (und rfl) rfl rfl) ?_
        refine S_val rfl rfl (Y_pick_t rfl rfl) ?_
        refine S_mv rfl rfl rfl ?_
        refine S_mv rfl rfl rfl ?_
        refine S_val rfl rfl (Y_toStr (und rfl) (und rfl) (und rfl) rfl (fun _ hs => hs.rowRd 0 rfl)) ?_
        refine S_mv rfl rfl rfl ?_
        refine S_val rfl rfl (Y_toStr (und rfl) (und rfl) (und rfl) rfl (fun _ hs => Rd.st (by assumption) hs)) ?_
        refine S_val rfl rfl (Y_eqlT_t rfl rfl rfl) ?_
        refine S_val rfl rfl (Y_pick_t rfl rfl) ?_
        refine S_mv rfl rfl rfl ?_
        refine S_mv rfl rfl rfl ?_
        refine S_callV rfl rfl (bod rfl) (fun w hs => ha _) rfl rfl ?_
        refine S_mv rfl rfl rfl ?_
        refine S_val rfl rfl (Y_eql_f rfl rfl (by decide)) ?_
        refine S_mv rfl rfl rfl ?_
        refine S_mv rfl rfl rfl ?_
        refine S_val rfl rfl (Y_eql_f rfl rfl (by decide)) ?_
        refine S_val rfl rfl (Y_pick_f rfl rfl) ?_
        refine S_mv rfl rfl rfl ?_
        refine S_mv rfl rfl rfl ?_
        refine S_val rfl rfl (Y_eql_t rfl rfl (by decide)) ?_
        refine S_val rfl rfl (Y_pick_f rfl rfl) ?_
        refine S_val rfl rfl (Y_eqlB_t (und rfl) rfl rfl) ?_
        refine S_val rfl rfl (Y_pick_t rfl rfl) ?_
        refine S_as rfl rfl rfl ?_
        refine S_nx ?_
        refine T_ret ?_
        ((first | refine X_fin_ret ?_ | refine X_fin ?_); exact ⟨[_], [], .cons (.tmp rfl) .nil, Emb.nil _, rfl, rfl⟩)
theorem precRuns_law (q : Int) (_hq : -9223372036854775808 ≤ q ∧ q ≤ 9223372036854775807) (n x : Nat) (hx : x < 256 ^ n) (_hn : n ≤ 9223372036854775807) (v : Value) (gas : Nat) (hg : gas < 18446744073709551616) (K : List U32) (hK : K = KL) (w : World) (hgb : Rd w (.slice (some ⟨0, 0, none⟩) 64 64) .u32 (bvl K)) (hr : Rd w v .u8 (bel n x)) : Fn Tryd.prog 3 #[.int .i64 q, v, .int .u64 gas] w fun u N => u = .bool true ∧ N = [] := by
  subst hK
  by_cases h : 1000 < n
  · have hbl := bel_length n x
    have hnil := Rd.nil0 w .u8
    refine Fn_of (args := [.int .i64 q, v, .int .u64 gas]) Tryd.func3 rfl Tryd.ntmps3 Tryd.results3 (by simp) ?_
    refine T_sr ?_
    refine S_as rfl rfl rfl ?_
    refine S_nx ?_
    refine T_seq ?_
    refine T_sr ?_
    refine S_mv rfl rfl rfl ?_
    refine S_val rfl rfl (Y_lenV rfl (und rfl) rfl (fun _ hs => Rd.st (by assumption) hs) (bel_length _ _)) ?_
    refine S_val rfl rfl (Y_gtr_t rfl rfl (by omega)) ?_
    refine S_mv rfl rfl rfl ?_
    refine S_skip rfl rfl ?_
    refine S_skip rfl rfl ?_
    refine S_skip rfl rfl ?_
    refine S_skip rfl rfl ?_
    refine S_skip rfl rfl ?_
    refine S_skip rfl rfl ?_
    refine S_skip rfl rfl ?_
    refine S_val rfl rfl (Y_pick_t rfl rfl) ?_
    refine S_nx ?_
    refine T_cond_true rfl ?_
    refine T_sr ?_
    refine S_callV rfl rfl (bod rfl) (fun w hs => pfixed_any _) rfl rfl ?_
    refine S_as rfl rfl rfl ?_
    refine S_nx ?_
    refine T_ret ?_
    refine X_seq_ret ?_
    ((first | refine X_fin_ret ?_ | refine X_fin ?_); exact ⟨[_], [], .cons (.tmp rfl) .nil, Emb.nil _, rfl, rfl⟩)
  · by_cases hp : gas < priceN q n x
    · rcases op_cases q with rfl | rfl | rfl | h2
      · exact runs_low 2 n x gas hx (by omega) hp v w hr (has_yes 2 (.inl rfl)) (.inl rfl)
      · exact runs_low 4 n x gas hx (by omega) hp v w hr (has_yes 4 (.inr (.inl rfl))) (.inr rfl)
      · exact runs_5low n x gas hx (by omega) hp v w hr
      · exact runs_none q h2 n x gas hx (by omega) hg v w hr
    · rcases op_cases q with rfl | rfl | rfl | h2
      · exact runs_2 n x gas hx (by omega) hg (by omega) v w hgb hr
      · exact runs_4 n x gas hx (by omega) hg (by omega) v w hr
      · exact runs_5 n x gas hx (by omega) hg (by omega) v w hr
      · exact runs_none q h2 n x gas hx (by omega) hg v w hr
end Go.Proofs.YtjolmphkmfbpbaaDoor
