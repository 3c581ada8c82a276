import Derived.Test.YtchoncjikdfbgaaMod4
import Derived.Test.YtchoncjikdfbgaaGas4
import Derived.Test.YtchoncjikdfbgaaRows3
import Derived.Test.YtchoncjikdfbgaaBytes
/- Layer 9: the chapter's examples; what is too long; the laws ModexpGas and ModexpPowers. -/
namespace Go.Proofs.Ytchoncjikdfbgaa
open Go.RowKit
set_option maxRecDepth 20000
set_option maxHeartbeats 4000000

theorem Rd.nil (w : World) (k : IntKind) : Rd w (.slice none 0 0) k [] := ⟨none, 0, rfl, Nat.le_refl _, .inl rfl⟩
theorem gasN_nil : gasN 0 0 = 200 := by
  unfold gasN lenN qN
  simp
theorem str1 : strI (bel 1 5) = ⟨#[5]⟩ := by kernel_rfl
theorem str2 : strI (bel 1 1) = ⟨#[1]⟩ := by kernel_rfl
theorem mfixed_any (w : World) : Fn Try.prog 32 #[] w fun v N => v = .bool true ∧ N = [] := by
  have p1 := mpow_any 1 3 1 5 1 7 (by omega) (by omega) (by omega) (by omega) (by omega) (by omega)
  have p2 := mpow_any 1 2 64 0 1 5 (by omega) (by omega) (by omega) (by omega) (by omega) (by omega)
  rw [show powN 3 5 7 = 5 by decide] at p1
  rw [show powN 2 0 5 = 1 by decide] at p2
  have gs := fun w => mgas_any 0 0 (by omega) (by omega) (.slice none 0 0) w (Rd.nil w .u8)
  simp only [gasN_nil] at gs
  have e1 := str1
  have e2 := str2
  have ez : bel 64 0 = List.replicate 64 0 := bel_zero 64
  refine Fn_of (args := []) Try.func32 rfl Try.ntmps32 Try.results32 (by simp) ?_
  refine T_seq ?_
  refine T_region ?_
  refine S_val rfl rfl (Y_assign rfl) ?_
  refine S_nil ?_
  refine X_seq ?_
  refine T_seq ?_
  refine T_region ?_
  refine S_sliceR (und rfl) (siz rfl) (zer rfl) rfl rfl rfl rfl fun _ => ?_
  refine S_sliceR (und rfl) (siz rfl) (zer rfl) rfl rfl rfl rfl fun _ => ?_
  refine S_sliceR (und rfl) (siz rfl) (zer rfl) rfl rfl rfl rfl fun _ => ?_
  refine S_call _ rfl rfl (bod rfl) (fun w hs => p1 _ _ _ _ (hs.rowRd 0 rfl) (hs.rowRd 1 rfl) (hs.rowRd 2 rfl)) rfl rfl ?_
  rintro _ _ ⟨u1, rfl, rfl⟩
  refine S_val rfl rfl (Y_move rfl) ?_
  refine S_val rfl rfl (Y_extract rfl rfl) ?_
  refine S_val rfl rfl (Y_extract rfl rfl) ?_
  refine S_val rfl rfl (Y_assign rfl) ?_
  refine S_val rfl rfl (Y_assign rfl) ?_
  refine S_nil ?_
  refine X_seq ?_
  refine T_seq ?_
  refine T_region ?_
  refine S_sliceR (und rfl) (siz rfl) (zer rfl) rfl rfl rfl rfl fun _ => ?_
  refine S_makeR (und rfl) (siz rfl) (byt rfl) (zer rfl) rfl rfl (nat_lit' _) (Nat.le_of_ble_eq_true rfl) rfl rfl rfl fun _ => ?_
  refine S_sliceR (und rfl) (siz rfl) (zer rfl) rfl rfl rfl rfl fun _ => ?_
  refine S_call _ rfl rfl (bod rfl) (fun w hs => p2 _ _ _ _ (hs.rowRd 4 rfl) (by rw [ez]; exact hs.rowRd 5 rfl) (hs.rowRd 6 rfl)) rfl rfl ?_
  rintro _ _ ⟨u2, rfl, rfl⟩
  refine S_val rfl rfl (Y_move rfl) ?_
  refine S_val rfl rfl (Y_extract rfl rfl) ?_
  refine S_val rfl rfl (Y_extract rfl rfl) ?_
  refine S_val rfl rfl (Y_assign rfl) ?_
  refine S_val rfl rfl (Y_assign rfl) ?_
  refine S_nil ?_
  refine X_seq ?_
  refine T_seq ?_
  refine T_region ?_
  refine S_val rfl rfl (Y_move rfl) ?_
  refine S_val rfl rfl (Y_toStr (und rfl) (und rfl) (und rfl) rfl (fun _ hs => hs.rowRd 3 rfl)) ?_
  refine S_val rfl rfl (Y_eqlT_t rfl rfl rfl) ?_
  refine S_val rfl rfl (Y_move rfl) ?_
  refine S_val rfl rfl (Y_move rfl) ?_
  refine S_val rfl rfl (Y_eql_t rfl rfl (by decide)) ?_
  refine S_val rfl rfl (Y_pick_t rfl rfl) ?_
  refine S_val rfl rfl (Y_move rfl) ?_
  refine S_val rfl rfl (Y_move rfl) ?_
  refine S_val rfl rfl (Y_toStr (und rfl) (und rfl) (und rfl) rfl (fun _ hs => hs.rowRd 7 rfl)) ?_
  refine S_val rfl rfl (Y_eqlT_t rfl rfl rfl) ?_
  refine S_val rfl rfl (Y_pick_t rfl rfl) ?_
  refine S_val rfl rfl (Y_move rfl) ?_
  refine S_val rfl rfl (Y_move rfl) ?_
  refine S_val rfl rfl (Y_eql_t rfl rfl (by decide)) ?_
  refine S_val rfl rfl (Y_pick_t rfl rfl) ?_
  refine S_val rfl rfl (Y_move rfl) ?_
  refine S_callV rfl rfl (bod rfl) (fun w hs => gs _) rfl rfl ?_
  refine S_val rfl rfl (Y_eql_t rfl rfl (by decide)) ?_
  refine S_val rfl rfl (Y_pick_t rfl rfl) ?_
  refine S_val rfl rfl (Y_assign rfl) ?_
  refine S_nil ?_
  refine X_seq ?_
  refine T_ret ?_
  ((first | refine X_fin_ret ?_ | refine X_fin ?_); exact ⟨[_], [], .cons (.tmp rfl) .nil, Emb.nil _, rfl, rfl⟩)
theorem modexpGas_law (n x : Nat) (hx : x < 256 ^ n) (_hn : n ≤ 9223372036854775807) (v : Value) (w : World) (hr : Rd w v .u8 (bel n x)) : Fn Try.prog 9 #[v] w fun u N => u = .bool true ∧ N = [] := by
  by_cases h : 2000 < n
  · refine Fn_of (args := [v]) Try.func9 rfl Try.ntmps9 Try.results9 (by simp) ?_
    refine T_seq ?_
    refine T_region ?_
    refine S_val rfl rfl (Y_assign rfl) ?_
    refine S_nil ?_
    refine X_seq ?_
    refine T_seq ?_
    refine T_seq ?_
    refine T_region ?_
    refine S_val rfl rfl (Y_move rfl) ?_
    refine S_val rfl rfl (Y_lenV rfl (und rfl) rfl (fun _ hs => Rd.st (by assumption) hs) (bel_length _ _)) ?_
    refine S_val rfl rfl (Y_gtr_t rfl rfl (by omega)) ?_
    refine S_nil ?_
    refine X_seq ?_
    refine T_cond_true rfl ?_
    refine T_seq ?_
    refine T_region ?_
    refine S_callV rfl rfl (bod rfl) (fun w hs => mfixed_any _) rfl rfl ?_
    refine S_val rfl rfl (Y_assign rfl) ?_
    refine S_nil ?_
    refine X_seq ?_
    refine T_ret ?_
    refine X_seq_ret ?_
    ((first | refine X_fin_ret ?_ | refine X_fin ?_); exact ⟨[_], [], .cons (.tmp rfl) .nil, Emb.nil _, rfl, rfl⟩)
  · have g1 := fun w h => mgas_any n x hx (by omega) v w h
    have g2 : ∀ w, Rd w v .u8 (bel n x) → Fn Try.prog 40 #[v] w fun u N => u = .int .u64 ((gasN n x : Nat) : Int) ∧ N = [] := fun w hr => by
      by_cases h1 : (lenN n x 0 = 0 ∧ lenN n x 2 = 0) ∨ ¬ (lenN n x 0 < 18446744073709551616 ∧ lenN n x 1 < 18446744073709551616 ∧ lenN n x 2 < 18446744073709551616)
      · exact rgas_none n x hx (by omega) v w hr h1
      · rw [not_or, Classical.not_not] at h1
        exact rgas_some n x hx (by omega) v w hr h1.1 h1.2.1 h1.2.2.1 h1.2.2.2
    generalize gasN n x = g at *
    clear hx
    refine Fn_of (args := [v]) Try.func9 rfl Try.ntmps9 Try.results9 (by simp) ?_
    refine T_seq ?_
    refine T_region ?_
    refine S_val rfl rfl (Y_assign rfl) ?_
    refine S_nil ?_
    refine X_seq ?_
    refine T_seq ?_
    refine T_seq ?_
    refine T_region ?_
    refine S_val rfl rfl (Y_move rfl) ?_
    refine S_val rfl rfl (Y_lenV rfl (und rfl) rfl (fun _ hs => Rd.st (by assumption) hs) (bel_length _ _)) ?_
    refine S_val rfl rfl (Y_gtr_f rfl rfl (by omega)) ?_
    refine S_nil ?_
    refine X_seq ?_
    refine T_cond_false rfl ?_
    refine T_skip ?_
    refine X_seq ?_
    refine T_seq ?_
    refine T_region ?_
    refine S_callV rfl rfl (bod rfl) (fun w hs => mfixed_any _) rfl rfl ?_
    refine S_val rfl rfl (Y_move rfl) ?_
    refine S_val rfl rfl (Y_move rfl) ?_
    refine S_callV rfl rfl (bod rfl) (fun w hs => g1 _ (by first | exact hs.rowRd 0 rfl | exact hs.rowRd 1 rfl | exact hs.rowRd 2 rfl | exact hs.rowRd 3 rfl | exact hs.rowRd 4 rfl | exact hs.rowRd 5 rfl | exact hs.rowRd 6 rfl | exact hs.rowRd 7 rfl | exact hs.rowRd 8 rfl | exact hs.rowRd 9 rfl | exact hs.rowRd 10 rfl | exact hs.rowRd 11 rfl | exact hs.rowRd 12 rfl | exact hs.rowRd 13 rfl | exact Rd.st (by assumption) hs)) rfl rfl ?_
    refine S_val rfl rfl (Y_move rfl) ?_
    refine S_callV rfl rfl (bod rfl) (fun w hs => g2 _ (by first | exact hs.rowRd 0 rfl | exact hs.rowRd 1 rfl | exact hs.rowRd 2 rfl | exact hs.rowRd 3 rfl | exact hs.rowRd 4 rfl | exact hs.rowRd 5 rfl | exact hs.rowRd 6 rfl | exact hs.rowRd 7 rfl | exact hs.rowRd 8 rfl | exact hs.rowRd 9 rfl | exact hs.rowRd 10 rfl | exact hs.rowRd 11 rfl | exact hs.rowRd 12 rfl | exact hs.rowRd 13 rfl | exact Rd.st (by assumption) hs)) rfl rfl ?_
    refine S_val rfl rfl (Y_eql_t rfl rfl (by omega)) ?_
    refine S_val rfl rfl (Y_pick_t rfl rfl) ?_
    refine S_val rfl rfl (Y_assign rfl) ?_
    refine S_nil ?_
    refine X_seq ?_
    refine T_ret ?_
    ((first | refine X_fin_ret ?_ | refine X_fin ?_); exact ⟨[_], [], .cons (.tmp rfl) .nil, Emb.nil _, rfl, rfl⟩)
theorem mlong_any (i n k : Nat) (l0 l1 l2 : List Int) (h0 : l0.length = i) (h1 : l1.length = n) (h2 : l2.length = k) (v v0 v1 v2 : Value) (w : World) (hr : RdV w v [v0, v1, v2]) (r0 : Rd w v0 .u8 l0) (r1 : Rd w v1 .u8 l1) (r2 : Rd w v2 .u8 l2) :
    Fn Try.prog 31 #[v] w fun u N => u = .bool (decide (64 < i ∨ 64 < n ∨ 64 < k)) ∧ N = [] := by
  obtain ⟨b, e, fz, rfl, hb⟩ := hr.out
  by_cases c0 : 64 < i
  · rw [decide_eq_true (.inl c0)]
    refine Fn_of (args := [.slice (some ⟨b, 0, none⟩) [v0, v1, v2].length [v0, v1, v2].length]) Try.func31 rfl Try.ntmps31 Try.results31 (by simp) ?_
    refine T_seq ?_
    refine T_region ?_
    refine S_val rfl rfl (Y_assign rfl) ?_
    refine S_nil ?_
    refine X_seq ?_
    refine T_seq ?_
    refine T_seq ?_
    refine T_region ?_
    refine S_val rfl rfl (Y_move rfl) ?_
    refine S_val rfl rfl (Y_len rfl (und rfl) rfl) ?_
    refine S_val rfl rfl (Y_move rfl) ?_
    refine S_nil ?_
    refine X_seq ?_
    refine T_block ?_
    refine T_loop (α := Nat) (fun j => j = 0) (fun j => [(5, .slice (some ⟨b, 0, none⟩) 3 3), (6, .int .i64 3), (7, .int .i64 j)]) (fun j => []) (fun j => j) 0 rfl (by repeat (first | exact Env.sub_nil _ | (apply Env.sub_cons; rfl))) [] rfl ?_
    rintro _ rfl
    refine T_seq ?_
    refine T_region ?_
    refine S_val rfl rfl (Y_lss_t rfl rfl (by decide)) ?_
    refine S_nil ?_
    refine X_seq ?_
    refine T_seq ?_
    refine T_cond_true rfl ?_
    refine T_skip ?_
    refine X_seq ?_
    refine T_seq ?_
    refine T_block ?_
    refine T_seq ?_
    refine T_region ?_
    refine S_val rfl rfl (Y_ixs0 (und rfl) (siz rfl) rfl rfl (nat_cast _) (Nat.le_of_ble_eq_true rfl)) ?_
    refine S_val rfl rfl (Y_load (und rfl) rfl rfl fun w' hs => old_cell hs hb 0) ?_
    refine S_val rfl rfl (Y_assign rfl) ?_
    refine S_nil ?_
    refine X_seq ?_
    refine T_seq ?_
    refine T_region ?_
    refine S_val rfl rfl (Y_move rfl) ?_
    refine S_val rfl rfl (Y_lenV rfl (und rfl) rfl (fun _ hs => Rd.st (by assumption) hs) (by assumption)) ?_
    refine S_val rfl rfl (Y_gtr_t rfl rfl (by omega)) ?_
    refine S_nil ?_
    refine X_seq ?_
    refine T_cond_true rfl ?_
    refine T_seq ?_
    refine T_region ?_
    refine S_val rfl rfl (Y_assign rfl) ?_
    refine S_nil ?_
    refine X_seq ?_
    refine T_ret ?_
    refine X_blk_ret ?_
    refine X_seq_ret ?_
    refine X_loop_ret ?_
    refine X_blk_ret ?_
    refine X_seq_ret ?_
    ((first | refine X_fin_ret ?_ | refine X_fin ?_); exact ⟨[_], [], .cons (.tmp rfl) .nil, Emb.nil _, rfl, rfl⟩)
  · by_cases c1 : 64 < n
    · rw [decide_eq_true (.inr (.inl c1))]
      refine Fn_of (args := [.slice (some ⟨b, 0, none⟩) [v0, v1, v2].length [v0, v1, v2].length]) Try.func31 rfl Try.ntmps31 Try.results31 (by simp) ?_
      refine T_seq ?_
      refine T_region ?_
      refine S_val rfl rfl (Y_assign rfl) ?_
      refine S_nil ?_
      refine X_seq ?_
      refine T_seq ?_
      refine T_seq ?_
      refine T_region ?_
      refine S_val rfl rfl (Y_move rfl) ?_
      refine S_val rfl rfl (Y_len rfl (und rfl) rfl) ?_
      refine S_val rfl rfl (Y_move rfl) ?_
      refine S_nil ?_
      refine X_seq ?_
      refine T_block ?_
      refine T_loop (α := Nat) (fun j => j = 0 ∨ j = 1) (fun j => [(5, .slice (some ⟨b, 0, none⟩) 3 3), (6, .int .i64 3), (7, .int .i64 j)]) (fun j => []) (fun j => 3 - j) 0 (.inl rfl) (by repeat (first | exact Env.sub_nil _ | (apply Env.sub_cons; rfl))) [] rfl ?_
      rintro _ (rfl | rfl)
      · skip
        refine T_seq ?_
        refine T_region ?_
        refine S_val rfl rfl (Y_lss_t rfl rfl (by decide)) ?_
        refine S_nil ?_
        refine X_seq ?_
        refine T_seq ?_
        refine T_cond_true rfl ?_
        refine T_skip ?_
        refine X_seq ?_
        refine T_seq ?_
        refine T_block ?_
        refine T_seq ?_
        refine T_region ?_
        refine S_val rfl rfl (Y_ixs0 (und rfl) (siz rfl) rfl rfl (nat_cast _) (Nat.le_of_ble_eq_true rfl)) ?_
        refine S_val rfl rfl (Y_load (und rfl) rfl rfl fun w' hs => old_cell hs hb 0) ?_
        refine S_val rfl rfl (Y_assign rfl) ?_
        refine S_nil ?_
        refine X_seq ?_
        refine T_seq ?_
        refine T_region ?_
        refine S_val rfl rfl (Y_move rfl) ?_
        refine S_val rfl rfl (Y_lenV rfl (und rfl) rfl (fun _ hs => Rd.st (by assumption) hs) (by assumption)) ?_
        refine S_val rfl rfl (Y_gtr_f rfl rfl (by omega)) ?_
        refine S_nil ?_
        refine X_seq ?_
        refine T_cond_false rfl ?_
        refine T_skip ?_
        refine X_blk ?_
        refine X_seq ?_
        refine T_region ?_
        refine S_val rfl rfl (Y_addN rfl rfl (nat_cast _) (nat_lit' _) (Nat.le_of_ble_eq_true rfl)) ?_
        refine S_val rfl rfl (Y_move rfl) ?_
        refine S_nil ?_
        refine X_loop ?_
        exact ⟨1, .inr rfl, by omega, (by repeat (first | exact Env.sub_nil _ | (apply Env.sub_cons; rfl))), [], rfl⟩
      · skip
        refine T_seq ?_
        refine T_region ?_
        refine S_val rfl rfl (Y_lss_t rfl rfl (by decide)) ?_
        refine S_nil ?_
        refine X_seq ?_
        refine T_seq ?_
        refine T_cond_true rfl ?_
        refine T_skip ?_
        refine X_seq ?_
        refine T_seq ?_
        refine T_block ?_
        refine T_seq ?_
        refine T_region ?_
        refine S_val rfl rfl (Y_ixs0 (und rfl) (siz rfl) rfl rfl (nat_cast _) (Nat.le_of_ble_eq_true rfl)) ?_
        refine S_val rfl rfl (Y_load (und rfl) rfl rfl fun w' hs => old_cell hs hb 1) ?_
        refine S_val rfl rfl (Y_assign rfl) ?_
        refine S_nil ?_
        refine X_seq ?_
        refine T_seq ?_
        refine T_region ?_
        refine S_val rfl rfl (Y_move rfl) ?_
        refine S_val rfl rfl (Y_lenV rfl (und rfl) rfl (fun _ hs => Rd.st (by assumption) hs) (by assumption)) ?_
        refine S_val rfl rfl (Y_gtr_t rfl rfl (by omega)) ?_
        refine S_nil ?_
        refine X_seq ?_
        refine T_cond_true rfl ?_
        refine T_seq ?_
        refine T_region ?_
        refine S_val rfl rfl (Y_assign rfl) ?_
        refine S_nil ?_
        refine X_seq ?_
        refine T_ret ?_
        refine X_blk_ret ?_
        refine X_seq_ret ?_
        refine X_loop_ret ?_
        refine X_blk_ret ?_
        refine X_seq_ret ?_
        ((first | refine X_fin_ret ?_ | refine X_fin ?_); exact ⟨[_], [], .cons (.tmp rfl) .nil, Emb.nil _, rfl, rfl⟩)
    · by_cases c2 : 64 < k
      · rw [decide_eq_true (.inr (.inr c2))]
        refine Fn_of (args := [.slice (some ⟨b, 0, none⟩) [v0, v1, v2].length [v0, v1, v2].length]) Try.func31 rfl Try.ntmps31 Try.results31 (by simp) ?_
        refine T_seq ?_
        refine T_region ?_
        refine S_val rfl rfl (Y_assign rfl) ?_
        refine S_nil ?_
        refine X_seq ?_
        refine T_seq ?_
        refine T_seq ?_
        refine T_region ?_
        refine S_val rfl rfl (Y_move rfl) ?_
        refine S_val rfl rfl (Y_len rfl (und rfl) rfl) ?_
        refine S_val rfl rfl (Y_move rfl) ?_
        refine S_nil ?_
        refine X_seq ?_
        refine T_block ?_
        refine T_loop (α := Nat) (fun j => j = 0 ∨ j = 1 ∨ j = 2) (fun j => [(5, .slice (some ⟨b, 0, none⟩) 3 3), (6, .int .i64 3), (7, .int .i64 j)]) (fun j => []) (fun j => 3 - j) 0 (.inl rfl) (by repeat (first | exact Env.sub_nil _ | (apply Env.sub_cons; rfl))) [] rfl ?_
        rintro _ (rfl | rfl | rfl)
        · skip
          refine T_seq ?_
          refine T_region ?_
          refine S_val rfl rfl (Y_lss_t rfl rfl (by decide)) ?_
          refine S_nil ?_
          refine X_seq ?_
          refine T_seq ?_
          refine T_cond_true rfl ?_
          refine T_skip ?_
          refine X_seq ?_
          refine T_seq ?_
          refine T_block ?_
          refine T_seq ?_
          refine T_region ?_
          refine S_val rfl rfl (Y_ixs0 (und rfl) (siz rfl) rfl rfl (nat_cast _) (Nat.le_of_ble_eq_true rfl)) ?_
          refine S_val rfl rfl (Y_load (und rfl) rfl rfl fun w' hs => old_cell hs hb 0) ?_
          refine S_val rfl rfl (Y_assign rfl) ?_
          refine S_nil ?_
          refine X_seq ?_
          refine T_seq ?_
          refine T_region ?_
          refine S_val rfl rfl (Y_move rfl) ?_
          refine S_val rfl rfl (Y_lenV rfl (und rfl) rfl (fun _ hs => Rd.st (by assumption) hs) (by assumption)) ?_
          refine S_val rfl rfl (Y_gtr_f rfl rfl (by omega)) ?_
          refine S_nil ?_
          refine X_seq ?_
          refine T_cond_false rfl ?_
          refine T_skip ?_
          refine X_blk ?_
          refine X_seq ?_
          refine T_region ?_
          refine S_val rfl rfl (Y_addN rfl rfl (nat_cast _) (nat_lit' _) (Nat.le_of_ble_eq_true rfl)) ?_
          refine S_val rfl rfl (Y_move rfl) ?_
          refine S_nil ?_
          refine X_loop ?_
          exact ⟨1, .inr (.inl rfl), by omega, (by repeat (first | exact Env.sub_nil _ | (apply Env.sub_cons; rfl))), [], rfl⟩
        · skip
          refine T_seq ?_
          refine T_region ?_
          refine S_val rfl rfl (Y_lss_t rfl rfl (by decide)) ?_
          refine S_nil ?_
          refine X_seq ?_
          refine T_seq ?_
          refine T_cond_true rfl ?_
          refine T_skip ?_
          refine X_seq ?_
          refine T_seq ?_
          refine T_block ?_
          refine T_seq ?_
          refine T_region ?_
          refine S_val rfl rfl (Y_ixs0 (und rfl) (siz rfl) rfl rfl (nat_cast _) (Nat.le_of_ble_eq_true rfl)) ?_
          refine S_val rfl rfl (Y_load (und rfl) rfl rfl fun w' hs => old_cell hs hb 1) ?_
          refine S_val rfl rfl (Y_assign rfl) ?_
          refine S_nil ?_
          refine X_seq ?_
          refine T_seq ?_
          refine T_region ?_
          refine S_val rfl rfl (Y_move rfl) ?_
          refine S_val rfl rfl (Y_lenV rfl (und rfl) rfl (fun _ hs => Rd.st (by assumption) hs) (by assumption)) ?_
          refine S_val rfl rfl (Y_gtr_f rfl rfl (by omega)) ?_
          refine S_nil ?_
          refine X_seq ?_
          refine T_cond_false rfl ?_
          refine T_skip ?_
          refine X_blk ?_
          refine X_seq ?_
          refine T_region ?_
          refine S_val rfl rfl (Y_addN rfl rfl (nat_cast _) (nat_lit' _) (Nat.le_of_ble_eq_true rfl)) ?_
          refine S_val rfl rfl (Y_move rfl) ?_
          refine S_nil ?_
          refine X_loop ?_
          exact ⟨2, .inr (.inr rfl), by omega, (by repeat (first | exact Env.sub_nil _ | (apply Env.sub_cons; rfl))), [], rfl⟩
        · skip
          refine T_seq ?_
          refine T_region ?_
          refine S_val rfl rfl (Y_lss_t rfl rfl (by decide)) ?_
          refine S_nil ?_
          refine X_seq ?_
          refine T_seq ?_
          refine T_cond_true rfl ?_
          refine T_skip ?_
          refine X_seq ?_
          refine T_seq ?_
          refine T_block ?_
          refine T_seq ?_
          refine T_region ?_
          refine S_val rfl rfl (Y_ixs0 (und rfl) (siz rfl) rfl rfl (nat_cast _) (Nat.le_of_ble_eq_true rfl)) ?_
          refine S_val rfl rfl (Y_load (und rfl) rfl rfl fun w' hs => old_cell hs hb 2) ?_
          refine S_val rfl rfl (Y_assign rfl) ?_
          refine S_nil ?_
          refine X_seq ?_
          refine T_seq ?_
          refine T_region ?_
          refine S_val rfl rfl (Y_move rfl) ?_
          refine S_val rfl rfl (Y_lenV rfl (und rfl) rfl (fun _ hs => Rd.st (by assumption) hs) (by assumption)) ?_
          refine S_val rfl rfl (Y_gtr_t rfl rfl (by omega)) ?_
          refine S_nil ?_
          refine X_seq ?_
          refine T_cond_true rfl ?_
          refine T_seq ?_
          refine T_region ?_
          refine S_val rfl rfl (Y_assign rfl) ?_
          refine S_nil ?_
          refine X_seq ?_
          refine T_ret ?_
          refine X_blk_ret ?_
          refine X_seq_ret ?_
          refine X_loop_ret ?_
          refine X_blk_ret ?_
          refine X_seq_ret ?_
          ((first | refine X_fin_ret ?_ | refine X_fin ?_); exact ⟨[_], [], .cons (.tmp rfl) .nil, Emb.nil _, rfl, rfl⟩)
      · rw [decide_eq_false (by omega)]
        refine Fn_of (args := [.slice (some ⟨b, 0, none⟩) [v0, v1, v2].length [v0, v1, v2].length]) Try.func31 rfl Try.ntmps31 Try.results31 (by simp) ?_
        refine T_seq ?_
        refine T_region ?_
        refine S_val rfl rfl (Y_assign rfl) ?_
        refine S_nil ?_
        refine X_seq ?_
        refine T_seq ?_
        refine T_seq ?_
        refine T_region ?_
        refine S_val rfl rfl (Y_move rfl) ?_
        refine S_val rfl rfl (Y_len rfl (und rfl) rfl) ?_
        refine S_val rfl rfl (Y_move rfl) ?_
        refine S_nil ?_
        refine X_seq ?_
        refine T_block ?_
        refine T_loop (α := Nat) (fun j => j = 0 ∨ j = 1 ∨ j = 2 ∨ j = 3) (fun j => [(5, .slice (some ⟨b, 0, none⟩) 3 3), (6, .int .i64 3), (7, .int .i64 j)]) (fun j => []) (fun j => 3 - j) 0 (.inl rfl) (by repeat (first | exact Env.sub_nil _ | (apply Env.sub_cons; rfl))) [] rfl ?_
        rintro _ (rfl | rfl | rfl | rfl)
        · skip
          refine T_seq ?_
          refine T_region ?_
          refine S_val rfl rfl (Y_lss_t rfl rfl (by decide)) ?_
          refine S_nil ?_
          refine X_seq ?_
          refine T_seq ?_
          refine T_cond_true rfl ?_
          refine T_skip ?_
          refine X_seq ?_
          refine T_seq ?_
          refine T_block ?_
          refine T_seq ?_
          refine T_region ?_
          refine S_val rfl rfl (Y_ixs0 (und rfl) (siz rfl) rfl rfl (nat_cast _) (Nat.le_of_ble_eq_true rfl)) ?_
          refine S_val rfl rfl (Y_load (und rfl) rfl rfl fun w' hs => old_cell hs hb 0) ?_
          refine S_val rfl rfl (Y_assign rfl) ?_
          refine S_nil ?_
          refine X_seq ?_
          refine T_seq ?_
          refine T_region ?_
          refine S_val rfl rfl (Y_move rfl) ?_
          refine S_val rfl rfl (Y_lenV rfl (und rfl) rfl (fun _ hs => Rd.st (by assumption) hs) (by assumption)) ?_
          refine S_val rfl rfl (Y_gtr_f rfl rfl (by omega)) ?_
          refine S_nil ?_
          refine X_seq ?_
          refine T_cond_false rfl ?_
          refine T_skip ?_
          refine X_blk ?_
          refine X_seq ?_
          refine T_region ?_
          refine S_val rfl rfl (Y_addN rfl rfl (nat_cast _) (nat_lit' _) (Nat.le_of_ble_eq_true rfl)) ?_
          refine S_val rfl rfl (Y_move rfl) ?_
          refine S_nil ?_
          refine X_loop ?_
          exact ⟨1, .inr (.inl rfl), by omega, (by repeat (first | exact Env.sub_nil _ | (apply Env.sub_cons; rfl))), [], rfl⟩
        · skip
          refine T_seq ?_
          refine T_region ?_
          refine S_val rfl rfl (Y_lss_t rfl rfl (by decide)) ?_
          refine S_nil ?_
          refine X_seq ?_
          refine T_seq ?_
          refine T_cond_true rfl ?_
          refine T_skip ?_
          refine X_seq ?_
          refine T_seq ?_
          refine T_block ?_
          refine T_seq ?_
          refine T_region ?_
          refine S_val rfl rfl (Y_ixs0 (und rfl) (siz rfl) rfl rfl (nat_cast _) (Nat.le_of_ble_eq_true rfl)) ?_
          refine S_val rfl rfl (Y_load (und rfl) rfl rfl fun w' hs => old_cell hs hb 1) ?_
          refine S_val rfl rfl (Y_assign rfl) ?_
          refine S_nil ?_
          refine X_seq ?_
          refine T_seq ?_
          refine T_region ?_
          refine S_val rfl rfl (Y_move rfl) ?_
          refine S_val rfl rfl (Y_lenV rfl (und rfl) rfl (fun _ hs => Rd.st (by assumption) hs) (by assumption)) ?_
          refine S_val rfl rfl (Y_gtr_f rfl rfl (by omega)) ?_
          refine S_nil ?_
          refine X_seq ?_
          refine T_cond_false rfl ?_
          refine T_skip ?_
          refine X_blk ?_
          refine X_seq ?_
          refine T_region ?_
          refine S_val rfl rfl (Y_addN rfl rfl (nat_cast _) (nat_lit' _) (Nat.le_of_ble_eq_true rfl)) ?_
          refine S_val rfl rfl (Y_move rfl) ?_
          refine S_nil ?_
          refine X_loop ?_
          exact ⟨2, .inr (.inr (.inl rfl)), by omega, (by repeat (first | exact Env.sub_nil _ | (apply Env.sub_cons; rfl))), [], rfl⟩
        · skip
          refine T_seq ?_
          refine T_region ?_
          refine S_val rfl rfl (Y_lss_t rfl rfl (by decide)) ?_
          refine S_nil ?_
          refine X_seq ?_
          refine T_seq ?_
          refine T_cond_true rfl ?_
          refine T_skip ?_
          refine X_seq ?_
          refine T_seq ?_
          refine T_block ?_
          refine T_seq ?_
          refine T_region ?_
          refine S_val rfl rfl (Y_ixs0 (und rfl) (siz rfl) rfl rfl (nat_cast _) (Nat.le_of_ble_eq_true rfl)) ?_
          refine S_val rfl rfl (Y_load (und rfl) rfl rfl fun w' hs => old_cell hs hb 2) ?_
          refine S_val rfl rfl (Y_assign rfl) ?_
          refine S_nil ?_
          refine X_seq ?_
          refine T_seq ?_
          refine T_region ?_
          refine S_val rfl rfl (Y_move rfl) ?_
          refine S_val rfl rfl (Y_lenV rfl (und rfl) rfl (fun _ hs => Rd.st (by assumption) hs) (by assumption)) ?_
          refine S_val rfl rfl (Y_gtr_f rfl rfl (by omega)) ?_
          refine S_nil ?_
          refine X_seq ?_
          refine T_cond_false rfl ?_
          refine T_skip ?_
          refine X_blk ?_
          refine X_seq ?_
          refine T_region ?_
          refine S_val rfl rfl (Y_addN rfl rfl (nat_cast _) (nat_lit' _) (Nat.le_of_ble_eq_true rfl)) ?_
          refine S_val rfl rfl (Y_move rfl) ?_
          refine S_nil ?_
          refine X_loop ?_
          exact ⟨3, .inr (.inr (.inr rfl)), by omega, (by repeat (first | exact Env.sub_nil _ | (apply Env.sub_cons; rfl))), [], rfl⟩
        · refine T_seq ?_
          refine T_region ?_
          refine S_val rfl rfl (Y_lss_f rfl rfl (by decide)) ?_
          refine S_nil ?_
          refine X_seq ?_
          refine T_seq ?_
          refine T_cond_false rfl ?_
          refine T_exit ?_
          refine X_seq_exit ?_
          refine X_loop_exit ?_
          refine X_blk_hit rfl ?_
          refine X_seq ?_
          refine T_seq ?_
          refine T_region ?_
          refine S_val rfl rfl (Y_assign rfl) ?_
          refine S_nil ?_
          refine X_seq ?_
          refine T_ret ?_
          ((first | refine X_fin_ret ?_ | refine X_fin ?_); exact ⟨[_], [], .cons (.tmp rfl) .nil, Emb.nil _, rfl, rfl⟩)
end Go.Proofs.Ytchoncjikdfbgaa
