import Derived.Test.YtkhaindnbcgopaaGreatDoorEvY
import Derived.Test.YtkhaindnbcgopaaGreatDoorProg
/- The chapter's example of evm comes to true. -/
namespace Go.Proofs.YtkhaindnbcgopaaGreatDoor
theorem fixed18_any (w : World) : Fn Tryz.prog 5 #[] w fun v N => v = .bool true ∧ N = [] := ev_true (fuel := 3000) (by kernel_rfl) w
end Go.Proofs.YtkhaindnbcgopaaGreatDoor
