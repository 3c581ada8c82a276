import Derived.Test.YtonmkjcilepdcaaGreatDoorGreat19
import Derived.Test.YtonmkjcilepdcaaGreatDoorFix20
/- The law ExecMissing hands back true. -/
namespace Go.Proofs.YtonmkjcilepdcaaGreatDoor
open Go.RowKit
set_option maxRecDepth 20000
set_option maxHeartbeats 4000000

theorem execMissing_way (fb ft : Nat → Lf) (g : Bool) (w : World) (h : SpecOk Tryz.prog w [(6, spOne (.agg (cellsT Tryz.prog 33 ft)) (.bool g)), (7, spNone (.bool true))]) :
    CallOk Tryz.prog w 3 ([.agg (cellsT Tryz.prog 29 fb), .agg (cellsT Tryz.prog 33 ft)].map .k) [.sym] (.k (.bool true)) [.sym] := by
  cases hg : g with
  | true =>
    subst hg
    exact call_way h (GbOk.nil _) (fuel := 1000) (orc := [.b true]) (obl := [true = true, Value.agg (cellsT Tryz.prog 33 ft) = Value.agg (cellsT Tryz.prog 33 ft)]) (by kernel_rfl) ⟨rfl, rfl, trivial⟩
  | false =>
    subst hg
    exact call_way h (GbOk.nil _) (fuel := 1000) (orc := [.b false, .lit, .lit, .lit, .lit, .lit, .lit, .lit, .lit, .lit, .lit, .lit, .lit, .lit, .lit, .lit, .lit, .lit]) (obl := [false = false, Value.agg (cellsT Tryz.prog 33 ft) = Value.agg (cellsT Tryz.prog 33 ft)]) (by kernel_rfl) ⟨rfl, rfl, trivial⟩
theorem execMissing_law (cb : Array Value) (hb : ∃ f, cb = cellsT Tryz.prog 29 f) (ct : Array Value) (ht : ∃ f, ct = cellsT Tryz.prog 33 f) (w : World) (_ : Gt Tryz.prog w 29 cb.toList) (_ : cb.size = 33) (hG : Gt Tryz.prog w 33 ct.toList) (hsz : ct.size = 57) : Fn Tryz.prog 3 #[.agg cb, .agg ct] w fun v N => v = .bool true ∧ N = [] := by
  obtain ⟨fb, rfl⟩ := hb
  obtain ⟨ft, rfl⟩ := ht
  obtain ⟨a1, n1, c1, h1⟩ : ∃ a n c, (cellsT Tryz.prog 33 ft)[46]? = some (.slice a n c) := ⟨(ft 46).a, (ft 46).n, (ft 46).c, by kernel_rfl⟩
  obtain ⟨a, n, c2, h2⟩ : ∃ a n c, (cellsT Tryz.prog 33 ft)[56]? = some (.slice a n c) := ⟨(ft 56).a, (ft 56).n, (ft 56).c, by kernel_rfl⟩
  have hW : WarmOk w a n := warm_of hG (c := c2) (by rw [Array.getElem?_toList]; exact h2)
  exact (execMissing_way fb ft (greatB w n1 a n) w (.cons (spOne_ok fun w' hO => great19_any _ hsz a1 n1 c1 h1 a n c2 h2 w hW w' hO) (.cons (spNone_ok fun w' _ => fixed20_any w') (.nil _ _)))).fn
end Go.Proofs.YtonmkjcilepdcaaGreatDoor
