import Derived.Test.YtchoncjikdfbgaaDoorOpen
import Derived.Test.YtchoncjikdfbgaaDoorNums2
import Derived.Laws.BytesString
import Derived.SizedLaws
/- Slices of bytes: what comes in; copies; strings. -/
namespace Go.Proofs.YtchoncjikdfbgaaDoor
open Go.ChangeShapes Go.WideShapes Go.ChangeAt Go.RowKit
set_option maxRecDepth 20000
theorem cellsB : Tryd.prog.cellsOf 5 = 1 := by kernel_rfl
/-- A slice of bytes that comes in: the bytes of a number. -/
theorem open_bytes {H : Type} {enc : TypeId × Value → H} {W0 : World} {r : Reach} {b0 base : Nat} {spare : Nat → Bool} {held : Bool} {v : Value} {d : DataW H} {p : List MemPlace}
    (hv : Value.okWide Tryd.prog W0 r b0 22 v) (h : DataW.Trod enc Tryd.prog W0 base spare held 22 v d p) : ∃ n x, x < 256 ^ n ∧ n ≤ 9223372036854775807 ∧ Rd W0 v .u8 (bel n x) ∧ (n = 0 ∨ ∃ elems rest, d = .slice elems rest ∧ n ≤ elems.length + rest.length) := by
  obtain ⟨a, len, cap, rfl⟩ := okWide_slice Tryd.underlying22 hv
  obtain ⟨fuel, hf⟩ := h
  rcases open_ints Tryd.underlying22 Tryd.underlying5 cellsB hf with ⟨hcs, _⟩ | ⟨a', len', cap', zs, hcs, _, hl, hm, hz, hxd, hcell, hwf⟩
  · simp [Value.cells] at hcs
    obtain ⟨rfl, rfl, rfl⟩ := hcs
    exact ⟨0, 0, by omega, by omega, ⟨none, 0, rfl, Nat.le_refl _, .inl rfl⟩, .inl rfl⟩
  · simp [Value.cells] at hcs
    obtain ⟨rfl, rfl, rfl⟩ := hcs
    have hlen : (zs.take len).length = len := by
      rw [List.length_take, hz]
      split <;> omega
    have hb : ∀ p ∈ zs.take len, 0 ≤ p ∧ p < 256 := fun p hp => by
      have := bounds_u8 (hwf p (List.mem_of_mem_take hp))
      omega
    obtain ⟨x, hx, hxe⟩ := bytes_of _ hb
    rw [hlen] at hx hxe
    refine ⟨len, x, hx, Nat.le_trans hl hm, ?_, .inr ⟨_, _, (Prod.mk.inj hxd).1, by unfold lits; rw [List.length_map, hlen]; omega⟩⟩
    rw [← hxe]
    refine ⟨some a', cap, by rw [hlen], by rw [hlen]; exact hl, ?_⟩
    by_cases h0 : len = 0
    · left
      subst h0
      exact List.take_zero ..
    · right
      have hzl : len ≤ zs.length := by rw [List.length_take] at hlen; omega
      have c0 := hcell 0 (by omega)
      obtain ⟨ab, ao, spot⟩ := a'
      have hspot : spot = none := by simpa [Addr.add] using World.cell?_spot c0
      subst hspot
      have key : ∃ cs e fz, W0.heap[ab]? = some (.cells cs e fz) := by
        rw [addr_add] at c0
        unfold World.cell? at c0
        split at c0
        · rename_i cs e fz hh
          exact ⟨cs, e, fz, hh⟩
        · cases c0
      obtain ⟨cs, e, fz, hh⟩ := key
      refine ⟨ab, ao, cs, e, fz, rfl, hh, fun i q hq => ?_⟩
      have hi : i < len := by
        have := (List.getElem?_eq_some_iff.1 hq).1
        omega
      have ci := hcell i (by omega)
      rw [addr_add] at ci
      unfold World.cell? at ci
      rw [hh] at ci
      simp only [Option.isSome_none, Bool.false_eq_true, if_false] at ci
      rw [List.getElem?_take, if_pos hi] at hq
      rw [ci, List.getD, hq]
      rfl
theorem sized_bytes {H : Type} {ts : List TypeId} {ds : List (DataW H)} (h : (DataW.weightsEach Tryd.prog ts ds).all (· ≤ reachBytes) = true) {j : Nat} {d : DataW H} {n : Nat} (ht : ts[j]? = some 22) (hd : ds[j]? = some d)
    (ho : n = 0 ∨ ∃ elems rest, d = .slice elems rest ∧ n ≤ elems.length + rest.length) : n ≤ 140737488355328 := by
  rcases ho with rfl | ⟨elems, rest, rfl, hn⟩
  · omega
  · have h1 := sized_slice h ht hd Tryd.underlying22
    have h2 : Tryd.prog.bytesOf 5 = 1 := by kernel_rfl
    have h3 : reachBytes ≤ 140737488355328 := by decide
    rw [h2, Nat.mul_one] at h1
    omega
end Go.Proofs.YtchoncjikdfbgaaDoor
