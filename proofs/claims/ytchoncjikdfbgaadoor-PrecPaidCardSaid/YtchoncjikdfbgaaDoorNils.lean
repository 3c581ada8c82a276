import Derived.Test.YtchoncjikdfbgaaDoorSlices
/- A slice, compared with none. -/
namespace Go.Proofs.YtchoncjikdfbgaaDoor
open Go.RowKit
set_option maxRecDepth 20000
theorem run_equal_ns {P : Program} {t e : TypeId} (ht : P.underlying t = some (.slice e)) (b : Option Addr) (n c d : Nat) (w : World) : (Op.equalIn (d + 1) t (.slice b n c) (.slice none 0 0)).run P w = .ok b.isNone w := by
  simp only [Op.equalIn, Sem.run_bind, run_underlying ht, Result.andThen_ok]
  cases b <;> rfl
theorem guard_ns (op : BinOp) (t : TypeId) (x y : Operand) (b : Option Addr) (n c : Nat) (P : Program) (w : World) : (eqGuard op t x y (.slice b n c) (.slice none 0 0)).run P w = .ok () w := by cases op <;> rfl
section
variable {C : Ctx} {E : Env} {L : Hp} {dst : Option Tmp} {ty : TypeId} {pos : String} {af : Array Edge} {g : Option (Nat × Bool)} {x y : Operand} {t u e : TypeId} {b : Option Addr} {n c : Nat}
theorem Y_eqlN (ht : C.P.underlying t = some (.slice e)) (hx : ev E x = some (.slice b n c)) (hy : ev E y = some (.slice none 0 0)) : Yv C E L ⟨dst, .binOp .eql t x y u, ty, pos, af, g⟩ (.bool b.isNone) := by
  refine ⟨fun a w h _ => ?_⟩
  have := run_equal_ns ht b n c 9999 w
  simp only [execOp, h.eval hx, h.eval hy, Sem.run_bind, guard_ns, Result.andThen_ok, binOp, Op.equal, Op.maxDepth]
  rw [this]
  rfl
end
end Go.Proofs.YtchoncjikdfbgaaDoor
