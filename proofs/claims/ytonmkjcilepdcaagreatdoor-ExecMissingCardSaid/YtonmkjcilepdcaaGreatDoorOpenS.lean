import Derived.Test.YtonmkjcilepdcaaGreatDoorEvZ
import Derived.WideShapes
import GoSem.ClaimGoes
/- Arguments that are structs, opened. -/
namespace Go.Proofs.YtonmkjcilepdcaaGreatDoor
open Go.RowKit Go.WideShapes
theorem open_struct {P : Program} {W : World} {r : Reach} {b0 : Nat} {t : TypeId} {v : Value} (ht : isAggT P t = some true) (h : Value.okWide P W r b0 t v) : ∃ cs, v = .agg cs ∧ cs.size = P.cellsOf t ∧ Row.okWide P W r b0 t cs := by
  obtain ⟨d, hu, hd⟩ := Option.map_eq_some_iff.1 ht
  unfold Value.okWide at h
  rw [hu] at h
  cases d <;> first | exact h | cases hd
theorem row_cell {P : Program} {W : World} {r : Reach} {b0 : Nat} {t u i : Nat} {cs : Array Value} (h : Row.okWide P W r b0 t cs) (hts : (P.cellTypes P.depth t).bind (·[i]?) = some u) (hi : i < cs.size) : ∃ v, cs[i]? = some v ∧ Cell.okWide P W r b0 u v := by
  obtain ⟨ts, h1, _, h2⟩ := h
  rw [h1, Option.bind_some] at hts
  refine ⟨cs[i], Array.getElem?_eq_getElem hi, ?_⟩
  obtain ⟨u', hu, hc⟩ := h2 i _ (Array.getElem?_eq_getElem hi)
  have hl := (List.getElem?_eq_some_iff.1 hts).1
  rw [Nat.mod_eq_of_lt hl, hts] at hu
  cases hu
  exact hc
def isSliceT (P : Program) (t : TypeId) : Bool := match P.underlying t with | some (.slice _) => true | _ => false
theorem row_slice {P : Program} {W : World} {r : Reach} {b0 : Nat} {t u i : Nat} {cs : Array Value} (h : Row.okWide P W r b0 t cs) (hts : (P.cellTypes P.depth t).bind (·[i]?) = some u) (hi : i < cs.size) (hu : isSliceT P u = true) : ∃ a n c, cs[i]? = some (.slice a n c) := by
  obtain ⟨v, hv, hc⟩ := row_cell h hts hi
  unfold isSliceT at hu
  split at hu
  case h_2 => cases hu
  case h_1 e he =>
    simp only [Cell.okWide, he] at hc
    cases v <;> simp_all [Cell.ok]
/-- No go statement stands anywhere. -/
theorem goes_none {P : Program} (h : P.funcs.any Func.goes = false) (f : FuncId) : P.goes f = false := by
  unfold Program.goes
  rw [h, Bool.and_false, Bool.or_false]
  rw [List.any_eq_false]
  intro g _ hg
  rw [Option.any_eq_true] at hg
  obtain ⟨fn, h1, h2⟩ := hg
  rw [Array.any_eq_false] at h
  obtain ⟨hl, he⟩ := Array.getElem?_eq_some_iff.1 h1
  have := h g hl
  rw [he] at this
  exact this h2
theorem gby_of {P : Program} {c : OpenClaim} (hs : c.start = .entering) (h : P.funcs.any Func.goes = false) : false = c.goesBy P := by
  unfold OpenClaim.goesBy Program.goesAt Program.goesFrom
  rw [hs]
  cases hf : P.funcNamed c.func with
  | none => rfl
  | some f => simp [goes_none h f]
end Go.Proofs.YtonmkjcilepdcaaGreatDoor
