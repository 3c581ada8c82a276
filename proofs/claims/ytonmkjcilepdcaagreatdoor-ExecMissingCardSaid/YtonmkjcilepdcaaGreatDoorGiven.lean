import Derived.Test.YtonmkjcilepdcaaGreatDoorSlices
import Derived.OpenShut
import Derived.ChangeOld
import Derived.DataReads
/- What is given: values that read, by their types. -/
namespace Go.Proofs.YtonmkjcilepdcaaGreatDoor
open Go.RowKit
set_option maxRecDepth 20000

/-- The cells read as a value of the type, in W. -/
def Gt (P : Program) (W : World) (t : TypeId) (cs : List Value) : Prop :=
  ∃ (H : Type) (enc : TypeId × Value → H) (fuel : Nat) (x : DataW H × List MemPlace), DataW.trod enc P W 0 (fun _ => true) true fuel t cs = some x
section
variable {P : Program} {W : World} {t e : TypeId} {cs : List Value}
theorem Gt.of_trod {H : Type} {enc : TypeId × Value → H} {v : Value} {d : DataW H} {p : List MemPlace} (h : DataW.Trod enc P W 0 (fun _ => true) true t v d p) : Gt P W t v.cells.toList := by
  obtain ⟨fuel, h⟩ := h
  exact ⟨H, enc, fuel, _, h⟩
theorem Gt.struct {fs : Array Field} (ht : P.underlying t = some (.struct fs)) (h : Gt P W t cs) {i : Nat} {f : Field} (hf : fs[i]? = some f) : Gt P W f.type ((cs.drop f.offset).take (P.cellsOf f.type)) := by
  obtain ⟨H, enc, fuel, x, h⟩ := h
  obtain ⟨xs, n, _, _, _, hl, hi⟩ := DataW.trod_struct ht h
  have h1 := hi i f hf
  have hlt : i < xs.length := by rw [hl]; exact (Array.getElem?_eq_some_iff.1 hf).1
  rw [List.getElem?_eq_getElem hlt] at h1
  exact ⟨H, enc, n, _, h1⟩
theorem Gt.array {n i : Nat} (ht : P.underlying t = some (.array n e)) (h : Gt P W t cs) (hi : i < n) : Gt P W e ((cs.drop (i * P.cellsOf e)).take (P.cellsOf e)) := by
  obtain ⟨H, enc, fuel, x, h⟩ := h
  obtain ⟨xs, m, _, _, _, hl, hx⟩ := DataW.trod_array ht h
  have h1 := hx i hi
  rw [List.getElem?_eq_getElem (by omega)] at h1
  exact ⟨H, enc, m, _, h1⟩
theorem Gt.int {k : IntKind} (ht : P.underlying t = some (.int k)) (h : Gt P W t cs) : ∃ n, cs = [.int k n] ∧ (Lit.int k n).wf = true := by
  obtain ⟨H, enc, fuel, x, h⟩ := h
  obtain ⟨n, h1, _, h2⟩ := DataW.trod_int ht h
  exact ⟨n, h1, h2⟩
theorem Gt.bool (ht : P.underlying t = some .bool) (h : Gt P W t cs) : ∃ b, cs = [.bool b] := by
  obtain ⟨H, enc, fuel, x, h⟩ := h
  obtain ⟨b, h1, _⟩ := DataW.trod_bool ht h
  exact ⟨b, h1⟩
/-- A slice: nil, or cells that are there. -/
theorem Gt.slice (ht : P.underlying t = some (.slice e)) (h : Gt P W t cs) : cs = [.slice none 0 0] ∨ ∃ (a : Addr) (len cap : Nat), cs = [.slice (some a) len cap] ∧ len ≤ cap ∧ cap ≤ maxLen ∧
    ∀ i, i < len → ∃ ecs : List Value, ecs.length = P.cellsOf e ∧ (∀ j, j < P.cellsOf e → W.cell? ((a.add (i * P.cellsOf e)).add j) = ecs[j]?) ∧ Gt P W e ecs := by
  obtain ⟨H, enc, fuel, x, h⟩ := h
  rcases DataW.trod_slice ht h with ⟨h1, _⟩ | ⟨a, len, cap, elems, rest, n, _, h1, _, _, h2, h3, h4, h5, _⟩
  · exact .inl h1
  · refine .inr ⟨a, len, cap, h1, h2, h3, fun i hi => ?_⟩
    have h6 := h5 i hi
    rw [List.getElem?_eq_getElem (by omega)] at h6
    obtain ⟨ecs, h7, h8⟩ := Option.bind_eq_some_iff.1 h6
    obtain ⟨_, h9, h10⟩ := World.cells?_some h7
    exact ⟨ecs, h9, h10, H, enc, n, _, h8⟩
end
theorem cell_there {W : World} {a : Addr} {v : Value} (h : W.cell? a = some v) : a = ⟨a.block, a.off, none⟩ ∧ a.block < W.heap.size := by
  unfold World.cell? at h
  split at h
  · rename_i c t f hb
    split at h
    · cases h
    · rename_i hs
      refine ⟨?_, (Array.getElem?_eq_some_iff.1 hb).1⟩
      cases a
      simp_all
  · cases h
/-- What was there at the beginning is there. -/
theorem St.given {C : Ctx} {L : Hp} {w : World} (hs : St C L w) {a : Addr} {v : Value} (hb : C.FB a.block) (h : C.w0.cell? a = some v) : w.cell? a = some v := by
  have := hs.fixed _ hb
  unfold World.cell? at h ⊢
  rw [this]
  exact h
section
variable {C : Ctx} {k : K} {E : Env} {L : Hp} {dst : Option Tmp} {ty : TypeId} {pos : String} {g : Option (Nat × Bool)} {af : Array Edge} {t : TypeId} {x y : Operand} {b off : Nat}
theorem Y_loadGv {d : TypeDesc} {v : Value} (ht : C.P.underlying t = some d) (hd : isAggB d = false) (hx : ev E x = some (.pointer (some ⟨b, off, none⟩))) (hb : C.FB b) (hv : C.w0.cell? ⟨b, off, none⟩ = some v) : Yv C E L ⟨dst, .load t x, ty, pos, af, g⟩ v :=
  Y_load ht hd hx fun _ hs => hs.given hb hv
/-- An element's place in a slice's array. -/
theorem Y_ixGv {e : TypeId} {sz len cap i : Nat} {k : IntKind} {p : Int} (ht : C.P.underlying t = some (.slice e)) (he : szOf C.P e = some sz) (hx : ev E x = some (.slice (some ⟨b, off, none⟩) len cap)) (hy : ev E y = some (.int k p))
    (hp : IsNat p i) (hi : i < len) : Yv C E L ⟨dst, .indexAddr t x y, ty, pos, af, g⟩ (.pointer (some ⟨b, off + i * sz, none⟩)) := by
  refine ⟨fun a w h _ => ?_⟩
  have hp := hp.eq
  have h1 : 0 ≤ p ∧ p < (len : Int) := by omega
  have h2 : p.toNat = i := by omega
  simp [execOp, h.eval hx, h.eval hy, Instr.indexAt, asIntOf, run_underlying ht, run_sizeOf he, h1, addr_add, h2]
end
end Go.Proofs.YtonmkjcilepdcaaGreatDoor
