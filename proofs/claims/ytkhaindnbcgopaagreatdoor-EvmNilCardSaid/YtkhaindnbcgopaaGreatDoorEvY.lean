import Derived.Test.YtkhaindnbcgopaaGreatDoorEvX
/- The evaluator: a function without arguments that comes to true. -/
noncomputable section
namespace Go.Proofs.YtkhaindnbcgopaaGreatDoor
open Go.RowKit
set_option maxRecDepth 20000
set_option maxHeartbeats 4000000

def isTrueS : Option (SV × SH) → Bool
  | some (.k (.bool true), _) => true
  | _ => false
theorem ev_true {P : Program} {g fuel : Nat} (h : isTrueS (callS P (evC P (drS P) fuel) g [] []) = true) (w : World) : Fn P g #[] w fun v N => v = .bool true ∧ N = [] := by
  unfold isTrueS at h
  split at h
  case h_2 => cases h
  case h_1 H2 hc =>
    obtain ⟨_, hcall⟩ := callS_ok (evC_ok (drS_ok P) fuel).1 hc
    have hs : St (ctx P 0 w) (denH (fun _ => (0, 0)) [] ++ []) w := St.startW P 0 w (FB := (· < w.heap.size)) (A := []) (ow := fun _ _ => False) (fun _ h => h) ⟨fun _ _ h => h.elim, fun _ _ h => h.elim, fun _ _ _ h => h.elim, fun i A h => by simp at h⟩
    refine Calls.mono (hcall (ctx P 0 w) rfl _ w [] hs) ?_
    rintro e w' ⟨u, rfl, σ', _, rfl, hs'⟩
    obtain ⟨ow, ho⟩ := (hs'.emb (Emb.nil _)).own
    exact ⟨_, [], ow, rfl, hs'.keptW, ho, by rw [den], rfl⟩
end Go.Proofs.YtkhaindnbcgopaaGreatDoor
end
