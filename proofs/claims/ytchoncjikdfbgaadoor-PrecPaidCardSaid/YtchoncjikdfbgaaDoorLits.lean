import Derived.Test.YtchoncjikdfbgaaDoorSlices
/- A slice of bytes out of a constant string. -/
namespace Go.Proofs.YtchoncjikdfbgaaDoor
open Go.RowKit
set_option maxRecDepth 20000
/-- A slice of its own block, that nobody writes to. -/
def rowZ (k : IntKind) (l : List Int) (v : Value) : Asr := fun h =>
  ∃ g cap post e fz, v = .slice (some ⟨g, 0, none⟩) l.length cap ∧ h g = some (.cells (ints k (l ++ post)) e fz) ∧ l.length ≤ cap
theorem rowZ.rd {S : Nat → Prop} {w : World} {k : IntKind} {l : List Int} {v : Value} (h : rowZ k l v (cut S w)) : Rd w v k l := by
  obtain ⟨g, cap, post, e, fz, rfl, hg, hc⟩ := h
  refine ⟨_, _, rfl, hc, .inr ⟨g, 0, _, e, fz, rfl, (cut_in hg).2, fun i p hp => ?_⟩⟩
  rw [Nat.zero_add, ints_get, List.getElem?_append_left (List.getElem?_eq_some_iff.1 hp).1, hp]
  rfl
theorem St.rowZRd {C : Ctx} {L : Hp} {w : World} (h : St C L w) (q : Nat) {k : IntKind} {l : List Int} {v : Value} (hq : L[q]? = some (rowZ k l v)) : Rd w v k l := by
  obtain ⟨ow, ho⟩ := h.own
  exact rowZ.rd (ho.sat q _ hq)
theorem S_convB {C : Ctx} {K0 : K} {E : Env} {L : Hp} {ops : Array Oper} {rest : List Oper} {ty : TypeId} {pos : String} {af : Array Edge} {g : Option (Nat × Bool)} {x : Operand} {t e : TypeId} {d : Nat} {l : List Int} {v : Value}
    (q : Nat) (ht : C.P.underlying t = some (.slice e)) (he : C.P.underlying e = some (.int .u8)) (hx : ev E x = some v) (hq : L[q]? = some (row .u8 l v)) (hne : l ≠ []) (hg : wantedE ops E g = some true) (hd : Nat.blt d C.n = true)
    (h : ∀ v', S C ops rest K0 ((d, v') :: E) (L.set q (rowZ .u8 l v'))) : S C ops (⟨some d, .convert t t x, ty, pos, af, g⟩ :: rest) K0 E L := by
  refine S_updV (R := rowZ .u8 l) q hg hd hq (fun a w D hrel hs hA hl => ?_) h
  rcases hA with ⟨_, rfl⟩ | ⟨gb, gc, post, ge, rfl, hB, hc⟩
  · exact absurd rfl hne
  have hw := (cut_in hB).2
  have hsh : w.shape? gb = some (ge, (ints .u8 (l ++ post)).size) := by unfold World.shape?; rw [hw]
  have hlt : gb < w.heap.size := (Array.getElem?_eq_some_iff.1 hw).1
  have hr : (execOp a.eval ⟨some d, .convert t t x, ty, pos, af, g⟩).run C.P w = .ok (.value (.slice (some ⟨gb, 0, none⟩) l.length gc)) (w.freeze ⟨gb, (ints .u8 (l ++ post)).size, none⟩ 1) := by
    simp [execOp, hrel.eval hx, convert, run_underlying ht, run_underlying he, markStringish, hsh]
  have hz : ∀ b, (w.freeze ⟨gb, (ints .u8 (l ++ post)).size, none⟩ 1).heap[b]? = if b = gb then some (.cells (ints .u8 (l ++ post)) ge ((ints .u8 (l ++ post)).size, (ints .u8 (l ++ post)).size + 1)) else w.heap[b]? := fun b => by
    unfold World.freeze
    rw [if_neg (by decide)]
    dsimp only
    rw [Array.getElem?_modify]
    by_cases hbg : gb = b
    · subst hbg
      rw [if_pos rfl, if_pos rfl, hw]
      rfl
    · rw [if_neg hbg, if_neg (fun e => hbg e.symm)]
  have hsz : (w.freeze ⟨gb, (ints .u8 (l ++ post)).size, none⟩ 1).heap.size = w.heap.size := by
    unfold World.freeze
    rw [if_neg (by decide)]
    exact Array.size_modify
  refine ⟨_, _, D, hr, rfl, rfl, rfl, by omega, fun b hb => .inl hb, fun b _ hn => ?_, ⟨gb, gc, post, ge, _, rfl, cut_of (cut_in hB).1 (by rw [hz, if_pos rfl]), by omega⟩⟩
  have hne2 : b ≠ gb := fun e3 => hn (by rw [e3]; exact (cut_in hB).1)
  rw [hz, if_neg hne2]
end Go.Proofs.YtchoncjikdfbgaaDoor
