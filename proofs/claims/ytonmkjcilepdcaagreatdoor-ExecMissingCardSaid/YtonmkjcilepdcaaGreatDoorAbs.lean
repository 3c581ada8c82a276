import Derived.Test.YtonmkjcilepdcaaGreatDoorSlices
import Derived.Test.YtonmkjcilepdcaaGreatDoorDraw
/- What a whole part of memory is said to be. -/
namespace Go.Proofs.YtonmkjcilepdcaaGreatDoor
open Go.RowKit
/-- An abstract object: data; what they say of the memory behind a block. -/
inductive Ab where
  | row (k : IntKind) (e : TypeId) (l : List Int)
  deriving Inhabited
def denAb : Ab → Nat × Nat → Asr
  | .row k e l, p => blk p.1 (.cells (ints k l) e (0, 0))
end Go.Proofs.YtonmkjcilepdcaaGreatDoor
