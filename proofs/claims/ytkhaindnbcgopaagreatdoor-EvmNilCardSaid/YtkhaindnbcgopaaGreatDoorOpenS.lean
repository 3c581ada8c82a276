import Derived.Test.YtkhaindnbcgopaaGreatDoorEvZ
import Derived.WideShapes
/- Arguments that are structs, opened. -/
namespace Go.Proofs.YtkhaindnbcgopaaGreatDoor
open Go.RowKit Go.WideShapes
theorem open_struct {P : Program} {W : World} {r : Reach} {b0 : Nat} {t : TypeId} {v : Value} (ht : isAggT P t = some true) (h : Value.okWide P W r b0 t v) : ∃ cs, v = .agg cs ∧ cs.size = P.cellsOf t ∧ Row.okWide P W r b0 t cs := by
  obtain ⟨d, hu, hd⟩ := Option.map_eq_some_iff.1 ht
  unfold Value.okWide at h
  rw [hu] at h
  cases d <;> first | exact h | cases hd
theorem row_cell {P : Program} {W : World} {r : Reach} {b0 : Nat} {t u i : Nat} {cs : Array Value} (h : Row.okWide P W r b0 t cs) (hts : (P.cellTypes P.depth t).bind (·[i]?) = some u) (hi : i < cs.size) : ∃ v, cs[i]? = some v ∧ Cell.okWide P W r b0 u v := by
  obtain ⟨ts, h1, _, h2⟩ := h
  rw [h1, Option.bind_some] at hts
  refine ⟨cs[i], Array.getElem?_eq_getElem hi, ?_⟩
  obtain ⟨u', hu, hc⟩ := h2 i _ (Array.getElem?_eq_getElem hi)
  have hl := (List.getElem?_eq_some_iff.1 hts).1
  rw [Nat.mod_eq_of_lt hl, hts] at hu
  cases hu
  exact hc
def isSliceT (P : Program) (t : TypeId) : Bool := match P.underlying t with | some (.slice _) => true | _ => false
theorem row_slice {P : Program} {W : World} {r : Reach} {b0 : Nat} {t u i : Nat} {cs : Array Value} (h : Row.okWide P W r b0 t cs) (hts : (P.cellTypes P.depth t).bind (·[i]?) = some u) (hi : i < cs.size) (hu : isSliceT P u = true) : ∃ a n c, cs[i]? = some (.slice a n c) := by
  obtain ⟨v, hv, hc⟩ := row_cell h hts hi
  unfold isSliceT at hu
  split at hu
  case h_2 => cases hu
  case h_1 e he =>
    simp only [Cell.okWide, he] at hc
    cases v <;> simp_all [Cell.ok]
end Go.Proofs.YtkhaindnbcgopaaGreatDoor
