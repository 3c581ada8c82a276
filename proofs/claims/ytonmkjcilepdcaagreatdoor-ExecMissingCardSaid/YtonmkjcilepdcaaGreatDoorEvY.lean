import Derived.Test.YtonmkjcilepdcaaGreatDoorEvX
/- The evaluator: a function without arguments that comes to true. -/
noncomputable section
namespace Go.Proofs.YtonmkjcilepdcaaGreatDoor
open Go.RowKit
set_option maxRecDepth 20000
set_option maxHeartbeats 4000000

def isTrueS : Ans (SV × SH × Th) → Bool
  | .ok (.k (.bool true), _, ⟨_, []⟩) => true
  | _ => false
theorem ev_true {P : Program} {g fuel : Nat} (pur : List FuncId) {w : World} {tab : List (FuncId × List Value × Value)} (ht : TabOk P w tab) {G : Gb} (hG : GbOk w G) (h : isTrueS (callB P (evC P (drS P) w pur tab [] G fuel) g [] [] ⟨[], []⟩) = true) : Fn P g #[] w fun v N => v = .bool true ∧ N = [] := by
  unfold isTrueS at h
  split at h
  case h_2 => cases h
  case h_1 H2 o hc =>
    obtain ⟨_, _, hcall⟩ := callB_ok (evC_ok (drS_ok P) ht (SpecOk.nil P w) hG fuel).1 hc trivial
    have hs : St (ctx P 0 w) (denH (fun _ => (0, 0)) [] ++ []) w := St.startW P 0 w (FB := (· < w.heap.size)) (A := []) (ow := fun _ _ => False) (fun _ h => h) ⟨fun _ _ h => h.elim, fun _ _ h => h.elim, fun _ _ _ h => h.elim, fun i A h => by simp at h⟩
    refine Calls.mono (hcall (ctx P 0 w) (by rw [evC_base]; exact (Over.refl w).fit) _ w [] hs) ?_
    rintro e w' ⟨u, rfl, σ', _, rfl, hs'⟩
    obtain ⟨ow, ho⟩ := (hs'.emb (Emb.nil _)).own
    exact ⟨_, [], ow, rfl, hs'.keptW, ho, by rw [den], rfl⟩
end Go.Proofs.YtonmkjcilepdcaaGreatDoor
end
