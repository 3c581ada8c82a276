import Derived.Test.YtchoncjikdfbgaaDoorStrs
/- 32-bit numbers as bit vectors; a variable of the package. -/
namespace Go.Proofs.YtchoncjikdfbgaaDoor
open Go.RowKit
set_option maxRecDepth 20000
abbrev U32 := BitVec 32
abbrev U8 := BitVec 8
def bvl (l : List U32) : List Int := l.map fun x => ((x.toNat : Nat) : Int)
def byl (l : List U8) : List Int := l.map fun x => ((x.toNat : Nat) : Int)
@[simp] theorem bvl_length (l : List U32) : (bvl l).length = l.length := List.length_map _
@[simp] theorem byl_length (l : List U8) : (byl l).length = l.length := List.length_map _
theorem bvl_get {l : List U32} {i : Nat} {a : U32} (h : l[i]? = some a) : (bvl l)[i]? = some ((a.toNat : Nat) : Int) := by unfold bvl; rw [List.getElem?_map, h]; rfl
theorem byl_get {l : List U8} {i : Nat} {a : U8} (h : l[i]? = some a) : (byl l)[i]? = some ((a.toNat : Nat) : Int) := by unfold byl; rw [List.getElem?_map, h]; rfl
theorem bvl_set (l : List U32) (i : Nat) (a : U32) : (bvl l).set i ((a.toNat : Nat) : Int) = bvl (l.set i a) := by unfold bvl; rw [List.map_set]
theorem byl_set (l : List U8) (i : Nat) (a : U8) : (byl l).set i ((a.toNat : Nat) : Int) = byl (l.set i a) := by unfold byl; rw [List.map_set]
theorem byl_take (l : List U8) (i : Nat) : (byl l).take i = byl (l.take i) := (List.map_take ..).symm
theorem byl_drop (l : List U8) (i : Nat) : (byl l).drop i = byl (l.drop i) := (List.map_drop ..).symm
theorem byl_append (l m : List U8) : byl l ++ byl m = byl (l ++ m) := (List.map_append ..).symm
theorem some_get {α : Type} {l : List α} {i n : Nat} (hl : l.length = n) (h : i < n) : ∃ a, l[i]? = some a := ⟨l[i]'(by omega), List.getElem?_eq_getElem (by omega)⟩
section
variable {C : Ctx} {E : Env} {L : Hp} {dst : Option Tmp} {ty : TypeId} {pos : String} {af : Array Edge} {g : Option (Nat × Bool)}
variable {x y : Operand} {t u e : TypeId} {a b : U32} {k : IntKind} {q : Int} {n m r : Nat} {p : Int}
theorem Y_bxor (hx : ev E x = some (.int .u32 ((a.toNat : Nat) : Int))) (hy : ev E y = some (.int .u32 ((b.toNat : Nat) : Int))) : Yv C E L ⟨dst, .binOp .xor t x y u, ty, pos, af, g⟩ (.int .u32 (((a ^^^ b).toNat : Nat) : Int)) := by
  rw [BitVec.toNat_xor]
  exact Y_xor hx hy (nat_cast _) (nat_cast _) rfl a.isLt b.isLt
theorem Y_band (hx : ev E x = some (.int .u32 ((a.toNat : Nat) : Int))) (hy : ev E y = some (.int .u32 ((b.toNat : Nat) : Int))) : Yv C E L ⟨dst, .binOp .and t x y u, ty, pos, af, g⟩ (.int .u32 (((a &&& b).toNat : Nat) : Int)) := by
  rw [BitVec.toNat_and]
  exact Y_and hx hy (nat_cast _) (nat_cast _) rfl a.isLt b.isLt
theorem Y_bor (hx : ev E x = some (.int .u32 ((a.toNat : Nat) : Int))) (hy : ev E y = some (.int .u32 ((b.toNat : Nat) : Int))) : Yv C E L ⟨dst, .binOp .or t x y u, ty, pos, af, g⟩ (.int .u32 (((a ||| b).toNat : Nat) : Int)) := by
  rw [BitVec.toNat_or]
  exact Y_or hx hy (nat_cast _) (nat_cast _) rfl a.isLt b.isLt
theorem Y_badd (hx : ev E x = some (.int .u32 ((a.toNat : Nat) : Int))) (hy : ev E y = some (.int .u32 ((b.toNat : Nat) : Int))) : Yv C E L ⟨dst, .binOp .add t x y u, ty, pos, af, g⟩ (.int .u32 (((a + b).toNat : Nat) : Int)) := by
  rw [BitVec.toNat_add]
  refine Y_add hx hy ?_
  rw [← Int.natCast_add]
  exact wu32n
theorem Y_bcpl (hx : ev E x = some (.int .u32 ((a.toNat : Nat) : Int))) : Yv C E L ⟨dst, .unOp .xor t x, ty, pos, af, g⟩ (.int .u32 (((~~~ a).toNat : Nat) : Int)) := by
  rw [BitVec.toNat_not]
  exact Y_cpl hx (nat_cast _) rfl a.isLt
theorem Y_bshl (hx : ev E x = some (.int .u32 ((a.toNat : Nat) : Int))) (hy : ev E y = some (.int k q)) (hq : IsNat q n) : Yv C E L ⟨dst, .binOp .shl t x y u, ty, pos, af, g⟩ (.int .u32 (((a <<< n).toNat : Nat) : Int)) := by
  rw [BitVec.toNat_shiftLeft, Nat.shiftLeft_eq]
  exact Y_shlN hx hy (nat_cast _) hq rfl rfl
theorem Y_bshr (hx : ev E x = some (.int .u32 ((a.toNat : Nat) : Int))) (hy : ev E y = some (.int k q)) (hq : IsNat q n) : Yv C E L ⟨dst, .binOp .shr t x y u, ty, pos, af, g⟩ (.int .u32 (((a >>> n).toNat : Nat) : Int)) := by
  rw [BitVec.toNat_ushiftRight, Nat.shiftRight_eq_div_pow]
  exact Y_shrN hx hy (nat_cast _) hq a.isLt
/-- A byte as 32 bits. -/
theorem Y_bconv {c : U8} {d : TypeDesc} (hu : C.P.underlying u = some (.int .u32)) (ht : C.P.underlying t = some d) (hx : ev E x = some (.int .u8 ((c.toNat : Nat) : Int))) : Yv C E L ⟨dst, .convert t u x, ty, pos, af, g⟩ (.int .u32 (((c.setWidth 32).toNat : Nat) : Int)) := by
  rw [BitVec.toNat_setWidth]
  exact Y_conv hu ht hx wu32n
/-- 32 bits as a byte. -/
theorem Y_bcut {d : TypeDesc} (hu : C.P.underlying u = some (.int .u8)) (ht : C.P.underlying t = some d) (hx : ev E x = some (.int .u32 ((a.toNat : Nat) : Int))) : Yv C E L ⟨dst, .convert t u x, ty, pos, af, g⟩ (.int .u8 (((a.setWidth 8).toNat : Nat) : Int)) := by
  rw [BitVec.toNat_setWidth]
  exact Y_conv hu ht hx wu8n
/-- 64 bits as a byte. -/
theorem Y_bcut64 {d : TypeDesc} {c : Nat} (hu : C.P.underlying u = some (.int .u8)) (ht : C.P.underlying t = some d) (hx : ev E x = some (.int .u64 ((c : Nat) : Int))) : Yv C E L ⟨dst, .convert t u x, ty, pos, af, g⟩ (.int .u8 (((BitVec.ofNat 8 c).toNat : Nat) : Int)) := by
  rw [BitVec.toNat_ofNat]
  exact Y_conv hu ht hx wu8n
/-- .. whose value is known. -/
theorem Y_andV (hx : ev E x = some (.int k p)) (hy : ev E y = some (.int k q)) (hp : IsNat p m) (hq : IsNat q n) (hk : k.signed = false) (hm : m < 2 ^ k.bits) (hn : n < 2 ^ k.bits) (hr : m &&& n = r) :
    Yv C E L ⟨dst, .binOp .and t x y u, ty, pos, af, g⟩ (.int k ((r : Nat) : Int)) := hr ▸ Y_and hx hy hp hq hk hm hn
/-- A cell of a package's variable, that reads as a slice would. -/
theorem Y_loadG {d : TypeDesc} {v : Nat} {off c : Nat} {l : List Int} (ht : C.P.underlying t = some d) (hd : isAggB d = false) (hx : ev E x = some (.pointer (some ⟨v, off, none⟩)))
    (hr : ∀ w, St C L w → Rd w (.slice (some ⟨v, 0, none⟩) n c) k l) (hv : l[off]? = some p) : Yv C E L ⟨dst, .load t x, ty, pos, af, g⟩ (.int k p) :=
  Y_load ht hd hx fun w hs => by
    have := (hr w hs).cell hv
    rwa [Nat.zero_add] at this
/-- arr[lo:hi], of an array of elements of one cell that begins its block. -/
theorem Y_sliceArrLH {v lo hi len : Nat} {q' : Int} {z : Operand} {k' : IntKind} {es : TypeId} (ht : C.P.underlying t = some (.array len es)) (he : szOf C.P es = some 1) (hx : ev E x = some (.pointer (some ⟨v, 0, none⟩))) (hy : ev E y = some (.int k q)) (hz : ev E z = some (.int k' q')) (hq : IsNat q lo) (hq' : IsNat q' hi) (h1 : lo ≤ hi) (h2 : hi ≤ len) (h3 : lo < len) :
    Yv C E L ⟨dst, .slice t x (some y) (some z) none, ty, pos, af, g⟩ (.slice (some ⟨v, lo, none⟩) (hi - lo) (len - lo)) := by
  refine ⟨fun a w h _ => ?_⟩
  have e2 : (Instr.sliceBound (.int k' q') len .sliceAlen).run C.P w = .ok hi w := run_bound hq' h2
  have e1 : (Instr.sliceBound (.int k q) hi .sliceB).run C.P w = .ok lo w := run_bound hq h1
  have h4 : ¬ len = lo := by omega
  simp [execOp, h.eval hx, h.eval hy, h.eval hz, Instr.sliceAt, Instr.sliceBounds, run_underlying ht, run_sizeOf he, e1, e2, Instr.sureAddr, addr_add, h4]
end
end Go.Proofs.YtchoncjikdfbgaaDoor
