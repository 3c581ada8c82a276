import Derived.Test.YtchoncjikdfbgaaDoorTy
import Derived.ProofKit
import Derived.OpenShut
import Derived.ShutString
import Derived.ChangeOld
import Derived.Laws.IdiomArrays
/- Arguments, opened: words and numbers. -/
namespace Go.Proofs.YtchoncjikdfbgaaDoor
open Go.ChangeShapes Go.WideShapes Go.ChangeAt Go.RowKit
set_option maxRecDepth 20000
theorem list4 {α : Type} (l : List α) (h : (⟨l⟩ : Array α).size = 4) : ∃ a b c d, l = [a, b, c, d] := by
  match l, h with
  | [a, b, c, d], _ => exact ⟨a, b, c, d, rfl⟩
theorem cellsW : Tryd.prog.cellsOf 47 = 4 := by kernel_rfl
theorem cellsU : Tryd.prog.cellsOf 25 = 1 := by kernel_rfl
theorem W_of (a b c d : Nat) (ha : a < 18446744073709551616) (hb : b < 18446744073709551616) (hc : c < 18446744073709551616) (hd : d < 18446744073709551616) : ∃ x, x < 2 ^ 256 ∧ W x = .agg #[.int .u64 a, .int .u64 b, .int .u64 c, .int .u64 d] := by
  have h : ∀ e ∈ [a, b, c, d], e < 18446744073709551616 := by
    intro e he
    simp only [List.mem_cons, List.not_mem_nil, or_false] at he
    omega
  refine ⟨vl 18446744073709551616 [a, b, c, d], Nat.lt_of_lt_of_le (vl_lt h) (show 18446744073709551616 ^ 4 ≤ 2 ^ 256 by decide), ?_⟩
  have := dl_vl (b := 18446744073709551616) (by omega) h
  unfold W
  simp only [List.length_cons, List.length_nil, Nat.zero_add, Nat.reduceAdd] at this
  rw [this]
  rfl
theorem open_word {H : Type} {enc : TypeId × Value → H} {W0 : World} {r : Reach} {b0 base : Nat} {spare : Nat → Bool} {held : Bool} {v : Value} {d : DataW H} {p : List MemPlace}
    (hv : Value.okWide Tryd.prog W0 r b0 47 v) (h : DataW.Trod enc Tryd.prog W0 base spare held 47 v d p) : ∃ x, x < 2 ^ 256 ∧ v = W x := by
  obtain ⟨cs, rfl, hsz, _⟩ : ∃ cs, v = .agg cs ∧ cs.size = Tryd.prog.cellsOf 47 ∧ Row.okWide Tryd.prog W0 r b0 47 cs := by
    simpa [Value.okWide, Tryd.underlying47] using hv
  rw [cellsW] at hsz
  obtain ⟨l⟩ := cs
  obtain ⟨c0, c1, c2, c3, rfl⟩ := list4 l hsz
  obtain ⟨fuel, hf⟩ := h
  obtain ⟨y0, y1, y2, y3, m, hx, hy0, hy1, hy2, hy3⟩ := trod_array4 Tryd.underlying47 cellsU hf
  obtain ⟨x0, e0, rfl, w0⟩ := DataW.trod_int Tryd.underlying25 hy0
  obtain ⟨x1, e1, rfl, w1⟩ := DataW.trod_int Tryd.underlying25 hy1
  obtain ⟨x2, e2, rfl, w2⟩ := DataW.trod_int Tryd.underlying25 hy2
  obtain ⟨x3, e3, rfl, w3⟩ := DataW.trod_int Tryd.underlying25 hy3
  simp at e0 e1 e2 e3
  subst e0 e1 e2 e3
  have b0 := bounds_u64 w0
  have b1 := bounds_u64 w1
  have b2 := bounds_u64 w2
  have b3 := bounds_u64 w3
  obtain ⟨n0, rfl⟩ : ∃ n : Nat, x0 = n := ⟨x0.toNat, by omega⟩
  obtain ⟨n1, rfl⟩ : ∃ n : Nat, x1 = n := ⟨x1.toNat, by omega⟩
  obtain ⟨n2, rfl⟩ : ∃ n : Nat, x2 = n := ⟨x2.toNat, by omega⟩
  obtain ⟨n3, rfl⟩ : ∃ n : Nat, x3 = n := ⟨x3.toNat, by omega⟩
  obtain ⟨x, hx, e⟩ := W_of n0 n1 n2 n3 (by omega) (by omega) (by omega) (by omega)
  exact ⟨x, hx, e.symm⟩
theorem open_u64 {H : Type} {enc : TypeId × Value → H} {W0 : World} {r : Reach} {b0 base : Nat} {spare : Nat → Bool} {held : Bool} {t : TypeId} {v : Value} {d : DataW H} {p : List MemPlace} (ht : Tryd.prog.underlying t = some (.int .u64))
    (hv : Value.okWide Tryd.prog W0 r b0 t v) (h : DataW.Trod enc Tryd.prog W0 base spare held t v d p) : ∃ x : Nat, x < 18446744073709551616 ∧ v = .int .u64 x := by
  obtain ⟨x, rfl, _, _, w⟩ := open_int ht hv h
  have := bounds_u64 w
  exact ⟨x.toNat, by omega, by rw [Int.toNat_of_nonneg (by omega)]⟩
theorem open_u8 {H : Type} {enc : TypeId × Value → H} {W0 : World} {r : Reach} {b0 base : Nat} {spare : Nat → Bool} {held : Bool} {t : TypeId} {v : Value} {d : DataW H} {p : List MemPlace} (ht : Tryd.prog.underlying t = some (.int .u8))
    (hv : Value.okWide Tryd.prog W0 r b0 t v) (h : DataW.Trod enc Tryd.prog W0 base spare held t v d p) : ∃ x : Nat, x < 256 ∧ v = .int .u8 x := by
  obtain ⟨x, rfl, _, _, w⟩ := open_int ht hv h
  have := bounds_u8 w
  exact ⟨x.toNat, by omega, by rw [Int.toNat_of_nonneg (by omega)]⟩
theorem open_i64 {H : Type} {enc : TypeId × Value → H} {W0 : World} {r : Reach} {b0 base : Nat} {spare : Nat → Bool} {held : Bool} {t : TypeId} {v : Value} {d : DataW H} {p : List MemPlace} (ht : Tryd.prog.underlying t = some (.int .i64))
    (hv : Value.okWide Tryd.prog W0 r b0 t v) (h : DataW.Trod enc Tryd.prog W0 base spare held t v d p) : ∃ x : Int, (-9223372036854775808 ≤ x ∧ x ≤ 9223372036854775807) ∧ v = .int .i64 x := by
  obtain ⟨x, rfl, _, _, w⟩ := open_int ht hv h
  have := bounds_i64 w
  exact ⟨x, by omega, rfl⟩
end Go.Proofs.YtchoncjikdfbgaaDoor
