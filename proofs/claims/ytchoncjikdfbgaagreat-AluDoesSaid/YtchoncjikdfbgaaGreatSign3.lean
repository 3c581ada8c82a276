import Derived.Test.YtchoncjikdfbgaaGreatSign2
import Derived.Test.YtchoncjikdfbgaaGreatRef5
import Derived.Test.YtchoncjikdfbgaaGreatRN3
import Derived.Test.YtchoncjikdfbgaaGreatDraw3
import Derived.Test.YtchoncjikdfbgaaGreatOpen
/- Signs: the chapter's examples, the references, and the laws SignLess and SignDivides. -/
namespace Go.Proofs.YtchoncjikdfbgaaGreat
open Go.RowKit
set_option maxRecDepth 20000
set_option maxHeartbeats 4000000

theorem rb_law {a : Nat} (ha : a < 2 ^ 256) : decide ((9223372036854775808 : Int) ≤ ((a / 18446744073709551616 ^ 3 % 18446744073709551616 : Nat) : Int)) = sgn a := by
  unfold sgn
  exact decide_eq_decide.2 ⟨fun _ => by omega, fun _ => by omega⟩
theorem rbelow_any (a : Nat) (ha : a < 2 ^ 256) (w : World) : Fn Tryz.prog 92 #[W a] w fun v N => v = .bool (sgn a) ∧ N = [] := by
  have e := rb_law ha
  clear ha
  refine Fn_of (args := [W a]) Tryz.func92 rfl Tryz.ntmps92 Tryz.results92 (by simp) ?_
  refine T_seq ?_
  refine T_region ?_
  refine S_boxA rfl rfl rfl fun _ => ?_
  refine S_val rfl rfl (Y_assign rfl) ?_
  refine S_nil ?_
  refine X_seq ?_
  refine T_seq ?_
  refine T_region ?_
  refine S_val rfl rfl (Y_ixa (und rfl) (siz rfl) rfl rfl (nat_lit' _) (Nat.le_of_ble_eq_true rfl)) ?_
  refine S_val rfl rfl (Y_loadI 0 (und rfl) rfl rfl rfl (dl_get (Nat.le_of_ble_eq_true rfl))) ?_
  refine S_val rfl rfl (Y_geq rfl rfl) ?_
  refine S_val rfl rfl (Y_assign rfl) ?_
  refine S_nil ?_
  refine X_seq ?_
  refine T_ret ?_
  ((first | refine X_fin_ret ?_ | refine X_fin ?_); exact ⟨[_], [], .cons (.tmp rfl) .nil, Emb.nil _, congrArg Value.bool e, rfl⟩)
theorem rneg3_any (a : Nat) (ha : a < 2 ^ 256) (w : World) : Fn Tryz.prog 93 #[W a] w fun v N => v = W (negN a) ∧ N = [] := by
  have rn := rneg_any a ha
  rw [show (2 ^ 256 - a) % 2 ^ 256 = negN a from rfl] at rn
  generalize negN a = r at *
  refine Fn_of (args := [W a]) Tryz.func93 rfl Tryz.ntmps93 Tryz.results93 (by simp) ?_
  refine T_seq ?_
  refine T_region ?_
  refine S_boxA rfl rfl rfl fun _ => ?_
  refine S_allocA (zer rfl) rfl rfl fun _ => ?_
  refine S_nil ?_
  refine X_seq ?_
  refine T_seq ?_
  refine T_region ?_
  refine S_val rfl rfl (Y_loadAI 0 (und rfl) rfl rfl rfl (siz rfl) (dl_length _ _ _)) ?_
  refine S_callV rfl rfl (bod rfl) (fun w hs => rof_any a _) rfl rfl ?_
  skip
  refine S_callV rfl rfl (bod rfl) (fun w hs => rn _) rfl rfl ?_
  skip
  refine S_callV rfl rfl (bod rfl) (fun w hs => rword_any r _) rfl rfl ?_
  refine S_storeAI 1 (siz rfl) rfl rfl rfl rfl (dl_length _ _ _) rfl ?_
  refine S_nil ?_
  refine X_seq ?_
  refine T_ret ?_
  ((first | refine X_fin_ret ?_ | refine X_fin ?_); exact ⟨[_], [], .cons (.agg 1 rfl (und rfl) rfl rfl (siz rfl)) .nil, Emb.nil _, rfl, rfl⟩)
theorem rsize_any (a : Nat) (ha : a < 2 ^ 256) (w : World) : Fn Tryz.prog 91 #[W a] w fun v N => v = W (absN a) ∧ N = [] := by
  have rb := rbelow_any a ha
  have rn := rneg_any a ha
  rw [show (2 ^ 256 - a) % 2 ^ 256 = negN a from rfl] at rn
  unfold absN
  generalize negN a = r at *
  generalize sgn a = s at *
  cases s
  · refine Fn_of (args := [W a]) Tryz.func91 rfl Tryz.ntmps91 Tryz.results91 (by simp) ?_
    refine T_seq ?_
    refine T_region ?_
    refine S_boxA rfl rfl rfl fun _ => ?_
    refine S_allocA (zer rfl) rfl rfl fun _ => ?_
    refine S_nil ?_
    refine X_seq ?_
    refine T_seq ?_
    refine T_seq ?_
    refine T_region ?_
    refine S_val rfl rfl (Y_loadAI 0 (und rfl) rfl rfl rfl (siz rfl) (dl_length _ _ _)) ?_
    refine S_callV rfl rfl (bod rfl) (fun w hs => rb _) rfl rfl ?_
    refine S_nil ?_
    refine X_seq ?_
    refine T_cond_false rfl ?_
    refine T_skip ?_
    refine X_seq ?_
    refine T_seq ?_
    refine T_region ?_
    refine S_val rfl rfl (Y_loadAI 0 (und rfl) rfl rfl rfl (siz rfl) (dl_length _ _ _)) ?_
    refine S_storeAI 1 (siz rfl) rfl rfl rfl rfl (dl_length _ _ _) rfl ?_
    refine S_nil ?_
    refine X_seq ?_
    refine T_ret ?_
    ((first | refine X_fin_ret ?_ | refine X_fin ?_); exact ⟨[_], [], .cons (.agg 1 rfl (und rfl) rfl rfl (siz rfl)) .nil, Emb.nil _, rfl, rfl⟩)
  · refine Fn_of (args := [W a]) Tryz.func91 rfl Tryz.ntmps91 Tryz.results91 (by simp) ?_
    refine T_seq ?_
    refine T_region ?_
    refine S_boxA rfl rfl rfl fun _ => ?_
    refine S_allocA (zer rfl) rfl rfl fun _ => ?_
    refine S_nil ?_
    refine X_seq ?_
    refine T_seq ?_
    refine T_seq ?_
    refine T_region ?_
    refine S_val rfl rfl (Y_loadAI 0 (und rfl) rfl rfl rfl (siz rfl) (dl_length _ _ _)) ?_
    refine S_callV rfl rfl (bod rfl) (fun w hs => rb _) rfl rfl ?_
    refine S_nil ?_
    refine X_seq ?_
    refine T_cond_true rfl ?_
    refine T_seq ?_
    refine T_region ?_
    refine S_val rfl rfl (Y_loadAI 0 (und rfl) rfl rfl rfl (siz rfl) (dl_length _ _ _)) ?_
    refine S_callV rfl rfl (bod rfl) (fun w hs => rof_any a _) rfl rfl ?_
    skip
    refine S_callV rfl rfl (bod rfl) (fun w hs => rn _) rfl rfl ?_
    skip
    refine S_callV rfl rfl (bod rfl) (fun w hs => rword_any r _) rfl rfl ?_
    refine S_storeAI 1 (siz rfl) rfl rfl rfl rfl (dl_length _ _ _) rfl ?_
    refine S_nil ?_
    refine X_seq ?_
    refine T_ret ?_
    refine X_seq_ret ?_
    ((first | refine X_fin_ret ?_ | refine X_fin ?_); exact ⟨[_], [], .cons (.agg 1 rfl (und rfl) rfl rfl (siz rfl)) .nil, Emb.nil _, rfl, rfl⟩)
theorem lt_256 {x : Nat} (hx : x < 2 ^ 256) : x < 256 ^ 32 := by rwa [show (256 : Nat) ^ 32 = 2 ^ 256 by decide]
end Go.Proofs.YtchoncjikdfbgaaGreat
