import Derived.Test.YtchoncjikdfbgaaDoorStrs
/- A slice of values that is written out. -/
namespace Go.Proofs.YtchoncjikdfbgaaDoor
open Go.RowKit
set_option maxRecDepth 20000
/-- A slice of values. -/
def rowV (vs : List Value) (v : Value) : Asr := fun h => ∃ b e, v = .slice (some ⟨b, 0, none⟩) vs.length vs.length ∧ h b = some (.cells vs.toArray e (0, 0))
structure RdV (w : World) (v : Value) (vs : List Value) : Prop where
  out : ∃ b e fz, v = .slice (some ⟨b, 0, none⟩) vs.length vs.length ∧ w.heap[b]? = some (.cells vs.toArray e fz)
theorem St.rowRdV {C : Ctx} {L : Hp} {w : World} (h : St C L w) (q : Nat) {vs : List Value} {v : Value} (hq : L[q]? = some (rowV vs v)) : RdV w v vs := by
  obtain ⟨ow, ho⟩ := h.own
  obtain ⟨b, e, h1, h2⟩ := ho.sat q _ hq
  exact ⟨b, e, (0, 0), h1, (cut_in h2).2⟩
theorem old_cell {P : Program} {n : Nat} {w w' : World} {L : Hp} (hs : St (ctx P n w) L w') {b : Nat} {cs : Array Value} {e : TypeId} {fz : Nat × Nat} (hb : w.heap[b]? = some (.cells cs e fz)) (i : Nat) : w'.cell? ⟨b, i, none⟩ = cs[i]? := by
  have hl : b < w.heap.size := (Array.getElem?_eq_some_iff.1 hb).1
  have := hs.fixed b hl
  have e : w'.heap[b]? = some (.cells cs e fz) := this.trans hb
  simp [World.cell?, e]
section
variable {C : Ctx} {K0 : K} {E : Env} {L : Hp} {ops : Array Oper} {rest : List Oper} {ty : TypeId} {pos : String} {af : Array Edge} {g : Option (Nat × Bool)}
variable {x y z : Operand} {t e : TypeId} {d : Nat} {u v s zv : Value}
theorem S_slice3 (ht : C.P.underlying t = some (.slice e)) (he : szOf C.P e = some 1) (hz : zeroOf C.P e = some zv) (hzc : zv.cells.size = 1) (hx : ev E x = some u) (hy : ev E y = some v) (hs : ev E z = some s)
    (hu : u.cells = #[u]) (hv : v.cells = #[v]) (hs' : s.cells = #[s]) (hg : wantedE ops E g = some true) (hd : Nat.blt d C.n = true)
    (h : ∀ r, S C ops rest K0 ((d, r) :: E) (L ++ [rowV [u, v, s] r])) : S C ops (⟨some d, .buildSlice t 3 #[(0, x), (1, y), (2, z)], ty, pos, af, g⟩ :: rest) K0 E L := by
  refine S_newR (R := rowV [u, v, s]) hg hd (fun a w hr _ => ?_) h
  refine ⟨.slice (some ⟨w.heap.size, 0, none⟩) 3 3, w.alloc (.cells #[u, v, s] e), ?_, rfl, rfl, rfl, by simp, fun b hb => ?_, ⟨w.heap.size, e, rfl, cut_of ⟨Nat.le_refl _, by simp⟩ (heap_alloc_new w _)⟩⟩
  · simp only [execOp, Instr.buildSlice, Sem.run_bind, run_underlying ht, Result.andThen_ok, run_sizeOf he]
    rw [if_neg (by omega), if_neg (by omega)]
    have hf : Instr.fill (fun i => some (i * 1, 1)) ((Array.range (3 * 1)).map fun i => zv.cells[i % zv.cells.size]!) (((#[(0, x), (1, y), (2, z)] : Array (Nat × Operand)).map fun (i, x) => (i, a.eval x)).toList) = some #[u, v, s] := by
      simp [Instr.fill, hr.eval hx, hr.eval hy, hr.eval hs, hu, hv, hs', hzc, Array.range, List.range, List.range.loop]
      apply Array.ext
      · simp
      · intro i h1 h2
        have h3 : i = 0 ∨ i = 1 ∨ i = 2 := by simp at h2; omega
        rcases h3 with rfl | rfl | rfl <;> simp
    simp only [Sem.run_bind, run_zeroValue hz, Result.andThen_ok, pure_bind, hf]
    rfl
  · exact heap_alloc_old w _ b hb
end
section
variable {C : Ctx} {E : Env} {L : Hp} {dst : Option Tmp} {ty : TypeId} {pos : String} {af : Array Edge} {g : Option (Nat × Bool)}
/-- An element of an array that is a value: some of its integers. -/
theorem Y_indexP {x y : Operand} {t e : TypeId} {k kd : IntKind} {p : Int} {n i sz : Nat} {l r : List Int} {d : TypeDesc} (ht : C.P.underlying t = some (.array n e)) (he : szOf C.P e = some sz) (hu : C.P.underlying e = some d) (hd : isAggB d = true) (hx : ev E x = some (.agg (ints kd l))) (hy : ev E y = some (.int k p))
    (hp : IsNat p i) (hi : i < n) (hr : (l.drop (i * sz)).take sz = r) : Yv C E L ⟨dst, .index t x y, ty, pos, af, g⟩ (.agg (ints kd r)) := by
  refine ⟨fun a w h _ => ?_⟩
  have hp := hp.eq
  have h1 : 0 ≤ p ∧ p < (n : Int) := by omega
  have h2 : p.toNat = i := by omega
  have h3 : (ints kd l).extract (i * sz) (i * sz + sz) = ints kd r := by
    rw [← hr]
    simp [ints, List.map_take, List.map_drop]
  simp [execOp, h.eval hx, h.eval hy, Instr.index, asIntOf, run_underlying ht, run_sizeOf he, h1, h2, part, run_isAgg hu, hd, h3]
end
end Go.Proofs.YtchoncjikdfbgaaDoor
