import Derived.Test.YtchoncjikdfbgaaDoorRows
import Derived.Test.YtchoncjikdfbgaaDoorOpen
import Derived.Test.YtchoncjikdfbgaaDoorBits32
import Derived.LaidMore
import Derived.Lay
import Derived.ProofKit
import Derived.OpenShut
/- The laid variable: sha's constants. -/
namespace Go.Proofs.YtchoncjikdfbgaaDoor
open Go.ChangeShapes Go.WideShapes Go.ChangeAt Go.RowKit
set_option maxRecDepth 20000
def KZ : List Int := [1116352408, 1899447441, 3049323471, 3921009573, 961987163, 1508970993, 2453635748, 2870763221, 3624381080, 310598401, 607225278, 1426881987, 1925078388, 2162078206, 2614888103, 3248222580, 3835390401, 4022224774, 264347078, 604807628, 770255983, 1249150122, 1555081692, 1996064986, 2554220882, 2821834349, 2952996808, 3210313671, 3336571891, 3584528711, 113926993, 338241895, 666307205, 773529912, 1294757372, 1396182291, 1695183700, 1986661051, 2177026350, 2456956037, 2730485921, 2820302411, 3259730800, 3345764771, 3516065817, 3600352804, 4094571909, 275423344, 430227734, 506948616, 659060556, 883997877, 958139571, 1322822218, 1537002063, 1747873779, 1955562222, 2024104815, 2227730452, 2361852424, 2428436474, 2756734187, 3204031479, 3329325298]
def KL : List U32 := [1116352408, 1899447441, 3049323471, 3921009573, 961987163, 1508970993, 2453635748, 2870763221, 3624381080, 310598401, 607225278, 1426881987, 1925078388, 2162078206, 2614888103, 3248222580, 3835390401, 4022224774, 264347078, 604807628, 770255983, 1249150122, 1555081692, 1996064986, 2554220882, 2821834349, 2952996808, 3210313671, 3336571891, 3584528711, 113926993, 338241895, 666307205, 773529912, 1294757372, 1396182291, 1695183700, 1986661051, 2177026350, 2456956037, 2730485921, 2820302411, 3259730800, 3345764771, 3516065817, 3600352804, 4094571909, 275423344, 430227734, 506948616, 659060556, 883997877, 958139571, 1322822218, 1537002063, 1747873779, 1955562222, 2024104815, 2227730452, 2361852424, 2428436474, 2756734187, 3204031479, 3329325298]
theorem KL_bvl : bvl KL = KZ := by decide
theorem KL_length : KL.length = 64 := rfl
theorem laid_KZ : Rows.laid_smithy_sha_constants (H := Unit) = .agg (KZ.map fun n => .lit (.int .u32 n)) := rfl
theorem const_cell {W : World} (h : laidMetH Tryd.prog [("smithy/sha.constants", Rows.laid_smithy_sha_constants)] W) (r : Nat) (hr : r < 64) : W.cell? ⟨0, r, none⟩ = some (.int .u32 (KZ.getD r 0)) := by
  rw [MakeChecks.laidMetH_plain _ _ _ (by kernel_rfl)] at h
  obtain ⟨ps, ⟨g, t, cs, fuel, p, q, hg, ht, hv, hd, _, _⟩, _, _⟩ := h
  obtain rfl := Option.some.inj ((show Tryd.prog.globalNamed "smithy/sha.constants" = some 0 by kernel_rfl).symm.trans hg)
  obtain rfl := Option.some.inj ((show (Tryd.prog.globals[0]?).map (·.type) = some 72 by kernel_rfl).symm.trans ht)
  obtain ⟨xs, m, _, ex, _, hl, hel⟩ := DataW.trod_array Tryd.underlying72 hd
  have c5 : Tryd.prog.cellsOf 66 = 1 := by kernel_rfl
  have hE := hel r hr
  rw [c5, Nat.mul_one, List.getElem?_eq_getElem (by omega)] at hE
  obtain ⟨z, e1, e2, _⟩ := DataW.trod_int Tryd.underlying66 hE
  have hlen : KZ.length = 64 := rfl
  rw [laid_KZ] at ex
  have e3 : (xs.map (·.1)) = KZ.map fun n => .lit (.int .u32 n) := (DataW.agg.inj (Prod.mk.inj ex).1).symm
  have e4 : (xs.map (·.1))[r]? = (KZ.map fun n => (DataW.lit (.int .u32 n) : DataW Unit))[r]? := by rw [e3]
  rw [List.getElem?_map, List.getElem?_map, List.getElem?_eq_getElem (by omega : r < xs.length), List.getElem?_eq_getElem (by omega : r < KZ.length), e2] at e4
  have hz : z = KZ.getD r 0 := by
    simp only [Option.map_some, Option.some.injEq, DataW.lit.injEq, Lit.int.injEq, true_and] at e4
    rw [e4, List.getD, List.getElem?_eq_getElem (by omega : r < KZ.length)]; rfl
  rw [World.var?_cell hg hv r, ← hz]
  have : cs.toList[r]? = some (.int .u32 z) := by
    have h0 : ((cs.toList.drop r).take 1)[0]? = some (.int .u32 z) := by rw [e1]; rfl
    simpa using h0
  simpa using this
theorem const_rd {W : World} (h : laidMetH Tryd.prog [("smithy/sha.constants", Rows.laid_smithy_sha_constants)] W) : Rd W (.slice (some ⟨0, 0, none⟩) 64 64) .u32 (bvl KL) := by
  rw [KL_bvl]
  have h0 := const_cell h 0 (by decide)
  have hc := const_cell h
  generalize hK : KZ = K at *
  have hlen : K.length = 64 := by rw [← hK]; rfl
  cases ho : W.heap[0]? with
  | none => simp [World.cell?, ho] at h0
  | some o =>
    cases o with
    | cells cs e fz =>
      refine ⟨some ⟨0, 0, none⟩, 64, by rw [hlen], by omega, .inr ⟨0, 0, cs, e, fz, rfl, ho, fun i p hp => ?_⟩⟩
      have hi := (List.getElem?_eq_some_iff.1 hp).1
      have h1 := hc i (by omega)
      simp only [World.cell?, ho] at h1
      rw [if_neg (by simp)] at h1
      rw [Nat.zero_add, h1, List.getD, hp]
      rfl
    | _ => simp [World.cell?, ho] at h0
end Go.Proofs.YtchoncjikdfbgaaDoor
