import Derived.Test.YtonmkjcilepdcaaGreatDoorEvP
import Derived.Test.YtonmkjcilepdcaaGreatDoorTy
import Derived.Test.YtonmkjcilepdcaaGreatDoorProg
/- Whether a transaction is too great to be tried: of any that reads. -/
namespace Go.Proofs.YtonmkjcilepdcaaGreatDoor
open Go.RowKit
set_option maxRecDepth 20000
set_option maxHeartbeats 4000000

/-- Rows that are given: where the lists of keys lie. -/
def WarmOk (B : World) (a : Option Addr) (n : Nat) : Prop := ∀ i, i < n → ∃ b off c k m, a = some ⟨b, off, none⟩ ∧ B.cell? ⟨b, off + i * 21 + 20, none⟩ = some (.slice c k m)
def keysN (B : World) (a : Option Addr) (i : Nat) : Nat :=
  match a with
  | some ad => match B.cell? ⟨ad.block, ad.off + i * 21 + 20, none⟩ with
    | some (.slice _ k _) => k
    | _ => 0
  | none => 0
def longN (B : World) (a : Option Addr) (n : Nat) : Bool := (List.range n).any fun i => decide (30 < keysN B a i)
def greatB (B : World) (n1 : Nat) (a : Option Addr) (n : Nat) : Bool := decide (3000 < n1) || decide (30 < n) || longN B a n
theorem warm_of {W : World} {cs : List Value} (h : Gt Tryz.prog W 33 cs) {a : Option Addr} {n c : Nat} (hd : cs[56]? = some (.slice a n c)) : WarmOk W a n := by
  obtain ⟨fs, hu, f, hf, ho, hk, ht⟩ : ∃ fs, Tryz.prog.underlying 33 = some (.struct fs) ∧ ∃ f, fs[9]? = some f ∧ f.offset = 56 ∧ Tryz.prog.cellsOf f.type = 1 ∧ f.type = 31 := ⟨_, rfl, _, rfl, by kernel_rfl, by kernel_rfl, by kernel_rfl⟩
  have h1 := Gt.struct hu h hf
  rw [ho, hk, ht] at h1
  have e : (cs.drop 56).take 1 = [.slice a n c] := by
    obtain ⟨hl, hv⟩ := List.getElem?_eq_some_iff.1 hd
    rw [List.drop_eq_getElem_cons hl, hv]; rfl
  rw [e] at h1
  obtain ⟨e2, hu2, hk2, ht2⟩ : ∃ e, Tryz.prog.underlying 31 = some (.slice e) ∧ Tryz.prog.cellsOf e = 21 ∧ e = 105 := ⟨_, rfl, by kernel_rfl, by kernel_rfl⟩
  rcases h1.slice hu2 with h2 | ⟨ad, len, cap, h2, _, _, h3⟩
  · cases h2
    intro i hi
    exact absurd hi (Nat.not_lt_zero i)
  · cases h2
    intro i hi
    obtain ⟨ecs, hl, hc, hg⟩ := h3 i hi
    rw [hk2] at hl hc
    rw [ht2] at hg
    obtain ⟨gs, hu4, f4, hf4, ho4, hk4, ht4⟩ : ∃ fs, Tryz.prog.underlying 105 = some (.struct fs) ∧ ∃ f, fs[1]? = some f ∧ f.offset = 20 ∧ Tryz.prog.cellsOf f.type = 1 ∧ f.type = 103 := ⟨_, rfl, _, rfl, by kernel_rfl, by kernel_rfl, by kernel_rfl⟩
    have h5 := Gt.struct hu4 hg hf4
    rw [ho4, hk4, ht4] at h5
    have e6 : (ecs.drop 20).take 1 = [ecs[20]] := by rw [List.drop_eq_getElem_cons (by omega)]; rfl
    rw [e6] at h5
    obtain ⟨e7, hu7⟩ : ∃ e, Tryz.prog.underlying 103 = some (.slice e) := ⟨_, rfl⟩
    have h8 := hc 20 (by decide)
    rw [List.getElem?_eq_getElem (by omega)] at h8
    have hsp : ad.spot = none := by
      obtain ⟨ecs0, hl0, hc0, _⟩ := h3 0 (by omega)
      rw [hk2] at hl0 hc0
      have h0 := hc0 0 (by decide)
      rw [List.getElem?_eq_getElem (by omega), Nat.zero_mul, show (ad.add 0).add 0 = ad from rfl] at h0
      exact congrArg Addr.spot (cell_there h0).1
    have key : ∃ c k m, ecs[20] = .slice c k m := by
      rcases h5.slice hu7 with h | ⟨ad, len, cap, h, _⟩
      · exact ⟨none, 0, 0, List.cons.inj h |>.1⟩
      · exact ⟨some ad, len, cap, List.cons.inj h |>.1⟩
    obtain ⟨c, k, m, hv⟩ := key
    obtain ⟨b, off, sp⟩ := ad
    cases hsp
    refine ⟨b, off, c, k, m, rfl, ?_⟩
    rw [← hv, ← h8, addr_add, addr_add]
theorem great19_any (cs : Array Value) (hs : cs.size = 57) (a1 : Option Addr) (n1 c1 : Nat) (h1 : cs[46]? = some (.slice a1 n1 c1)) (a : Option Addr) (n c2 : Nat) (h2 : cs[56]? = some (.slice a n c2)) (B : World) (hW : WarmOk B a n) (w : World) (hO : Over B w) : Fn Tryz.prog 6 #[.agg cs] w fun v N => v = .bool (greatB B n1 a n) ∧ N = [] := by
  refine Fn_of (args := [.agg cs]) Tryz.func6 rfl Tryz.ntmps6 Tryz.results6 (by simp) ?_
  refine T_seq ?_
  refine T_region ?_
  refine S_boxA rfl rfl rfl fun _ => ?_
  refine S_val rfl rfl (Y_assign rfl) ?_
  refine S_nil ?_
  refine X_seq ?_
  refine T_seq ?_
  refine T_seq ?_
  refine T_region ?_
  refine S_val rfl rfl (Y_fieldA 46 (by kernel_rfl) rfl) ?_
  refine S_val rfl rfl (Y_load1 0 (und rfl) rfl rfl rfl h1) ?_
  by_cases g1 : 3000 < n1
  · refine S_val rfl rfl (Y_len rfl (und rfl) rfl) ?_
    refine S_val rfl rfl (Y_gtr_t rfl rfl (by omega)) ?_
    refine S_val rfl rfl (Y_move rfl) ?_
    refine S_skip rfl rfl ?_
    refine S_skip rfl rfl ?_
    refine S_skip rfl rfl ?_
    refine S_skip rfl rfl ?_
    refine S_val rfl rfl (Y_pick_t rfl rfl) ?_
    refine S_nil ?_
    refine X_seq ?_
    refine T_cond_true rfl ?_
    refine T_seq ?_
    refine T_region ?_
    refine S_val rfl rfl (Y_assign rfl) ?_
    refine S_nil ?_
    refine X_seq ?_
    refine T_ret ?_
    refine X_seq_ret ?_
    ((first | refine X_fin_ret ?_ | refine X_fin ?_); exact ⟨[_], [], .cons (.tmp rfl) .nil, Emb.nil _, by rw [show greatB B n1 a n = true by simp [greatB, g1]]; rfl, rfl⟩)
  · have g1' : ¬ ((n1 : Int) > 3000) := by omega
    refine S_val rfl rfl (Y_len rfl (und rfl) rfl) ?_
    refine S_val rfl rfl (Y_gtr_f rfl rfl (by assumption)) ?_
    refine S_val rfl rfl (Y_move rfl) ?_
    refine S_val rfl rfl (Y_fieldA 56 (by kernel_rfl) rfl) ?_
    refine S_val rfl rfl (Y_load1 0 (und rfl) rfl rfl rfl h2) ?_
    by_cases g2 : 30 < n
    · refine S_val rfl rfl (Y_len rfl (und rfl) rfl) ?_
      refine S_val rfl rfl (Y_gtr_t rfl rfl (by omega)) ?_
      refine S_val rfl rfl (Y_pick_f rfl rfl) ?_
      refine S_nil ?_
      refine X_seq ?_
      refine T_cond_true rfl ?_
      refine T_seq ?_
      refine T_region ?_
      refine S_val rfl rfl (Y_assign rfl) ?_
      refine S_nil ?_
      refine X_seq ?_
      refine T_ret ?_
      refine X_seq_ret ?_
      ((first | refine X_fin_ret ?_ | refine X_fin ?_); exact ⟨[_], [], .cons (.tmp rfl) .nil, Emb.nil _, by rw [show greatB B n1 a n = true by simp [greatB, g2]]; rfl, rfl⟩)
    · have g2' : ¬ ((n : Int) > 30) := by omega
      refine S_val rfl rfl (Y_len rfl (und rfl) rfl) ?_
      refine S_val rfl rfl (Y_gtr_f rfl rfl (by assumption)) ?_
      refine S_val rfl rfl (Y_pick_f rfl rfl) ?_
      refine S_nil ?_
      refine X_seq ?_
      refine T_cond_false rfl ?_
      refine T_skip ?_
      refine X_seq ?_
      refine T_seq ?_
      refine T_seq ?_
      refine T_region ?_
      refine S_val rfl rfl (Y_fieldA 56 (by kernel_rfl) rfl) ?_
      refine S_val rfl rfl (Y_load1 0 (und rfl) rfl rfl rfl h2) ?_
      refine S_val rfl rfl (Y_len rfl (und rfl) rfl) ?_
      refine S_val rfl rfl (Y_move rfl) ?_
      refine S_nil ?_
      refine X_seq ?_
      refine T_block ?_
      rename_i b
      refine T_loopE (α := Nat) (fun i => i ≤ n ∧ ∀ j, j < i → keysN B a j ≤ 30) (fun i => [(1, .pointer (some ⟨b, 0, none⟩)), (16, .int .i64 n), (17, .int .i64 i)]) (fun _ => [blk b (.cells cs 33 (0, 0))]) (fun i => n - i) 0 ⟨Nat.zero_le _, fun j h => absurd h (Nat.not_lt_zero j)⟩ (by repeat (first | exact Env.sub_nil _ | (apply Env.sub_cons; rfl))) (Emb.refl _) ?_
      rintro i ⟨hi, hk⟩
      by_cases h : i < n
      · obtain ⟨d, off, c, k, m, rfl, hc⟩ := hW i h
        have hd := (cell_there (hO.cell hc)).2
        have hcw := hO.cell hc
        have ek : keysN B (some ⟨d, off, none⟩) i = k := by simp [keysN, hc]
        refine T_seq ?_
        refine T_region ?_
        refine S_val rfl rfl (Y_lss_t rfl rfl (by omega)) ?_
        refine S_nil ?_
        refine X_seq ?_
        refine T_seq ?_
        refine T_cond_true rfl ?_
        refine T_skip ?_
        refine X_seq ?_
        refine T_seq ?_
        refine T_block ?_
        refine T_seq ?_
        refine T_region ?_
        refine S_val rfl rfl (Y_move rfl) ?_
        refine S_val rfl rfl (Y_assign rfl) ?_
        refine S_nil ?_
        refine X_seq ?_
        refine T_seq ?_
        refine T_region ?_
        refine S_val rfl rfl (Y_fieldA 56 (by kernel_rfl) rfl) ?_
        refine S_val rfl rfl (Y_load1 0 (und rfl) rfl rfl rfl h2) ?_
        refine S_val rfl rfl (Y_move rfl) ?_
        refine S_val rfl rfl (Y_ixGv (i := i) (e := 105) (sz := 21) (by kernel_rfl) (by kernel_rfl) rfl rfl (nat_cast _) h) ?_
        refine S_val rfl rfl (Y_fieldA 20 (by kernel_rfl) rfl) ?_
        refine S_val rfl rfl (Y_loadGv (d := .slice 26) (by kernel_rfl) rfl rfl hd hcw) ?_
        by_cases g3 : 30 < k
        · refine S_val rfl rfl (Y_len rfl (und rfl) rfl) ?_
          refine S_val rfl rfl (Y_gtr_t rfl rfl (by omega)) ?_
          refine S_nil ?_
          refine X_seq ?_
          refine T_cond_true rfl ?_
          refine T_seq ?_
          refine T_region ?_
          refine S_val rfl rfl (Y_assign rfl) ?_
          refine S_nil ?_
          refine X_seq ?_
          refine T_ret ?_
          refine X_blk_ret ?_
          refine X_seq_ret ?_
          refine X_loop_ret ?_
          refine X_blk_ret ?_
          refine X_seq_ret ?_
          ((first | refine X_fin_ret ?_ | refine X_fin ?_); exact ⟨[_], [], .cons (.tmp rfl) .nil, Emb.nil _, by rw [show greatB B n1 _ n = true by simp only [greatB, longN, Bool.or_eq_true, List.any_eq_true]; exact .inr ⟨i, List.mem_range.2 h, by rw [ek]; simpa using g3⟩]; rfl, rfl⟩)
        · have g3' : ¬ ((k : Int) > 30) := by omega
          refine S_val rfl rfl (Y_len rfl (und rfl) rfl) ?_
          refine S_val rfl rfl (Y_gtr_f rfl rfl (by assumption)) ?_
          refine S_nil ?_
          refine X_seq ?_
          refine T_cond_false rfl ?_
          refine T_skip ?_
          refine X_blk ?_
          refine X_seq ?_
          refine T_region ?_
          refine S_val rfl rfl (Y_addN rfl rfl (nat_cast _) (nat_lit' _) (by omega)) ?_
          refine S_val rfl rfl (Y_move rfl) ?_
          refine S_nil ?_
          refine X_loop ?_
          exact ⟨i + 1, ⟨by omega, fun j hj => (Nat.lt_or_ge j i).elim (hk j) fun h' => by rw [show j = i by omega, ek]; omega⟩, by omega, (by repeat (first | exact Env.sub_nil _ | (apply Env.sub_cons; rfl))), Emb.refl _⟩
      · obtain rfl : i = n := by omega
        refine T_seq ?_
        refine T_region ?_
        refine S_val rfl rfl (Y_lss_f rfl rfl (by omega)) ?_
        refine S_nil ?_
        refine X_seq ?_
        refine T_seq ?_
        refine T_cond_false rfl ?_
        refine T_exit ?_
        refine X_seq_exit ?_
        refine X_loop_exit ?_
        refine X_blk_hit rfl ?_
        refine X_seq ?_
        refine T_seq ?_
        refine T_region ?_
        refine S_val rfl rfl (Y_assign rfl) ?_
        refine S_nil ?_
        refine X_seq ?_
        refine T_ret ?_
        ((first | refine X_fin_ret ?_ | refine X_fin ?_); exact ⟨[_], [], .cons (.tmp rfl) .nil, Emb.nil _, by rw [show greatB B n1 a i = false by simp only [greatB, longN, Bool.or_eq_false_iff, List.any_eq_false, List.mem_range]; exact ⟨⟨by simpa using g1, by simpa using g2⟩, fun x hx => by have := hk x hx; simpa using this⟩]; rfl, rfl⟩)
end Go.Proofs.YtonmkjcilepdcaaGreatDoor
