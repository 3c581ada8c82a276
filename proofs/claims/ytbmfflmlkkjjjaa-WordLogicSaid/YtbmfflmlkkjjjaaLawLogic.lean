import Derived.Test.YtbmfflmlkkjjjaaLaw01
import Derived.Test.YtbmfflmlkkjjjaaRef3
/- The law WordLogic hands back true. -/
namespace Go.Proofs.Ytbmfflmlkkjjjaa
open Go.RowKit
set_option maxRecDepth 10000
set_option maxHeartbeats 4000000

theorem logic_any (x : Nat) (hx : x < 2 ^ 256) (y : Nat) (_hy : y < 2 ^ 256) (w : World) : Fn Try.prog 5 #[W x, W y] w fun v N => v = .bool true ∧ N = [] := by
  obtain ⟨o, ho⟩ : ∃ o, o = 2 ^ 256 - 1 := ⟨_, rfl⟩
  have e0 : dl 18446744073709551616 4 (2 ^ 256 - 1) = fillI (List.replicate 4 0) [(0, 18446744073709551615), (1, 18446744073709551615), (2, 18446744073709551615), (3, 18446744073709551615)] := by decide +kernel
  have ro : ∀ w, Fn Try.prog 14 #[.agg (ints .u64 (fillI (List.replicate 4 0) [(0, 18446744073709551615), (1, 18446744073709551615), (2, 18446744073709551615), (3, 18446744073709551615)]))] w fun v N => v = D o ∧ N = [] := fun w => by
    have := rof_any o w
    unfold W at this
    rw [show dl 18446744073709551616 4 o = fillI (List.replicate 4 0) [(0, 18446744073709551615), (1, 18446744073709551615), (2, 18446744073709551615), (3, 18446744073709551615)] by rw [ho]; exact e0] at this
    exact this
  have n1 : ∀ i : Nat, i < 256 → isBit 2 (bitN x i + bitN o i) → (2 ^ 256 - 1 - x) / 2 ^ i % 2 = 1 := by rw [ho]; exact fun i h => (bit_not x i hx h).1
  have n0 : ∀ i : Nat, i < 256 → ¬ isBit 2 (bitN x i + bitN o i) → (2 ^ 256 - 1 - x) / 2 ^ i % 2 = 0 := by rw [ho]; exact fun i h => (bit_not x i hx h).2
  clear ho e0
  refine Fn_of (args := [W x, W y]) Try.func5 rfl Try.ntmps5 Try.results5 (by simp) ?_
  refine T_seq ?_
  refine T_region ?_
  refine S_boxA rfl rfl rfl fun _ => ?_
  refine S_boxA rfl rfl rfl fun _ => ?_
  refine S_val rfl rfl (Y_assign rfl) ?_
  refine S_nil ?_
  refine X_seq ?_
  refine T_seq ?_
  refine T_drawP (.succ (.succ (.succ (.succ (.succ (.succ .zero)))))) (by kernel_rfl) (by kernel_rfl) (by kernel_rfl) (by kernel_rfl) ?_
  refine D0_valM rfl rfl rfl (Y_loadAI 0 (und rfl) rfl rfl rfl (siz rfl) (dl_length _ _ _)) ?_
  refine D0_callV rfl rfl (bod rfl) (fun w _ => rof_any x _) rfl rfl ?_
  refine D0_valM rfl rfl rfl (Y_loadAI 1 (und rfl) rfl rfl rfl (siz rfl) (dl_length _ _ _)) ?_
  refine D0_callV rfl rfl (bod rfl) (fun w _ => rof_any y _) rfl rfl ?_
  refine D0_new (D1_allocA (zer rfl) rfl fun _ => ?_)
  refine D1_allocA (zer rfl) rfl fun _ => ?_
  refine D1_nilS fun _ => ?_
  refine S_storeAI 2 (siz rfl) rfl rfl rfl rfl (dl_length _ _ _) rfl ?_
  refine S_storeAI 3 (siz rfl) rfl rfl rfl rfl (dl_length _ _ _) rfl ?_
  refine S_nil ?_
  refine X_seq ?_
  refine T_seq ?_
  refine T_region ?_
  refine S_val rfl rfl (Y_build (und rfl) (siz rfl) (zer rfl) rfl rfl) ?_
  refine S_callV rfl rfl (bod rfl) (fun w _ => ro _) rfl rfl ?_
  refine S_allocA (zer rfl) rfl rfl fun _ => ?_
  refine S_storeAI 4 (siz rfl) rfl rfl rfl rfl (dl_length _ _ _) rfl ?_
  refine S_nil ?_
  refine X_seq ?_
  refine T_seq ?_
  refine T_draw (by kernel_rfl) (by kernel_rfl) rfl ?_
  refine D0_callV rfl rfl (bod rfl) (fun w _ => fixed_any _) rfl rfl ?_
  refine D0_val rfl rfl rfl (Y_move rfl) ?_
  refine D0_valM rfl rfl rfl (Y_loadAI 0 (und rfl) rfl rfl rfl (siz rfl) (dl_length _ _ _)) ?_
  refine D0_valM rfl rfl rfl (Y_loadAI 1 (und rfl) rfl rfl rfl (siz rfl) (dl_length _ _ _)) ?_
  refine D0_callV rfl rfl (bod rfl) (fun w _ => and_any x y _) rfl rfl ?_
  refine D0_valM rfl rfl rfl (Y_loadAI 2 (und rfl) rfl rfl rfl (siz rfl) (dl_length _ _ _)) ?_
  refine D0_valM rfl rfl rfl (Y_loadAI 3 (und rfl) rfl rfl rfl (siz rfl) (dl_length _ _ _)) ?_
  refine D0_callV rfl rfl (bod rfl) (fun w _ => rlogic_any x y (x &&& y) 0 (.inl rfl) (fun i h => (bit_and x y i h).1) (fun i h => (bit_and x y i h).2) _) rfl rfl ?_
  skip
  refine D0_callV rfl rfl (bod rfl) (fun w _ => rword_any (x &&& y) _) rfl rfl ?_
  refine D0_val rfl rfl rfl (Y_eqlA_t (eqg rfl) (und rfl) (und rfl) (siz rfl) rfl rfl (dl_length _ _ _) rfl) ?_
  refine D0_val rfl rfl rfl (Y_pick_t rfl rfl) ?_
  refine D0_val rfl rfl rfl (Y_move rfl) ?_
  refine D0_valM rfl rfl rfl (Y_loadAI 0 (und rfl) rfl rfl rfl (siz rfl) (dl_length _ _ _)) ?_
  refine D0_valM rfl rfl rfl (Y_loadAI 1 (und rfl) rfl rfl rfl (siz rfl) (dl_length _ _ _)) ?_
  refine D0_callV rfl rfl (bod rfl) (fun w _ => or_any x y _) rfl rfl ?_
  refine D0_valM rfl rfl rfl (Y_loadAI 2 (und rfl) rfl rfl rfl (siz rfl) (dl_length _ _ _)) ?_
  refine D0_valM rfl rfl rfl (Y_loadAI 3 (und rfl) rfl rfl rfl (siz rfl) (dl_length _ _ _)) ?_
  refine D0_callV rfl rfl (bod rfl) (fun w _ => rlogic_any x y (x ||| y) 1 (.inr (.inl rfl)) (fun i h => (bit_or x y i h).1) (fun i h => (bit_or x y i h).2) _) rfl rfl ?_
  skip
  refine D0_callV rfl rfl (bod rfl) (fun w _ => rword_any (x ||| y) _) rfl rfl ?_
  refine D0_val rfl rfl rfl (Y_eqlA_t (eqg rfl) (und rfl) (und rfl) (siz rfl) rfl rfl (dl_length _ _ _) rfl) ?_
  refine D0_val rfl rfl rfl (Y_pick_t rfl rfl) ?_
  refine D0_val rfl rfl rfl (Y_move rfl) ?_
  refine D0_valM rfl rfl rfl (Y_loadAI 0 (und rfl) rfl rfl rfl (siz rfl) (dl_length _ _ _)) ?_
  refine D0_valM rfl rfl rfl (Y_loadAI 1 (und rfl) rfl rfl rfl (siz rfl) (dl_length _ _ _)) ?_
  refine D0_callV rfl rfl (bod rfl) (fun w _ => xor_any x y _) rfl rfl ?_
  refine D0_valM rfl rfl rfl (Y_loadAI 2 (und rfl) rfl rfl rfl (siz rfl) (dl_length _ _ _)) ?_
  refine D0_valM rfl rfl rfl (Y_loadAI 3 (und rfl) rfl rfl rfl (siz rfl) (dl_length _ _ _)) ?_
  refine D0_callV rfl rfl (bod rfl) (fun w _ => rlogic_any x y (x ^^^ y) 2 (.inr (.inr rfl)) (fun i h => (bit_xor x y i h).1) (fun i h => (bit_xor x y i h).2) _) rfl rfl ?_
  skip
  refine D0_callV rfl rfl (bod rfl) (fun w _ => rword_any (x ^^^ y) _) rfl rfl ?_
  refine D0_val rfl rfl rfl (Y_eqlA_t (eqg rfl) (und rfl) (und rfl) (siz rfl) rfl rfl (dl_length _ _ _) rfl) ?_
  refine D0_val rfl rfl rfl (Y_pick_t rfl rfl) ?_
  refine D0_val rfl rfl rfl (Y_move rfl) ?_
  refine D0_valM rfl rfl rfl (Y_loadAI 0 (und rfl) rfl rfl rfl (siz rfl) (dl_length _ _ _)) ?_
  refine D0_callV rfl rfl (bod rfl) (fun w _ => not_any x hx _) rfl rfl ?_
  refine D0_valM rfl rfl rfl (Y_loadAI 2 (und rfl) rfl rfl rfl (siz rfl) (dl_length _ _ _)) ?_
  refine D0_valM rfl rfl rfl (Y_loadAI 4 (und rfl) rfl rfl rfl (siz rfl) (dl_length _ _ _)) ?_
  refine D0_callV rfl rfl (bod rfl) (fun w _ => rlogic_any x o (2 ^ 256 - 1 - x) 2 (.inr (.inr rfl)) n1 n0 _) rfl rfl ?_
  skip
  refine D0_callV rfl rfl (bod rfl) (fun w _ => rword_any (2 ^ 256 - 1 - x) _) rfl rfl ?_
  refine D0_val rfl rfl rfl (Y_eqlA_t (eqg rfl) (und rfl) (und rfl) (siz rfl) rfl rfl (dl_length _ _ _) rfl) ?_
  refine D0_val rfl rfl rfl (Y_pick_t rfl rfl) ?_
  refine D0_val rfl rfl rfl (Y_assign rfl) ?_
  refine D0_nil ?_
  refine X_seq ?_
  refine T_ret ?_
  ((first | refine X_fin_ret ?_ | refine X_fin ?_); exact ⟨[_], [], .cons (.tmp rfl) .nil, List.nil_sublist _, rfl, rfl⟩)
end Go.Proofs.Ytbmfflmlkkjjjaa
