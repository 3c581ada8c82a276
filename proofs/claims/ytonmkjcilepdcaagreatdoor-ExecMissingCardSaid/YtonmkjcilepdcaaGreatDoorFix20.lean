import Derived.Test.YtonmkjcilepdcaaGreatDoorEvY
import Derived.Test.YtonmkjcilepdcaaGreatDoorProg
/- The chapter's example of smithylaw20 comes to true. -/
namespace Go.Proofs.YtonmkjcilepdcaaGreatDoor
theorem fixed20_any (w : World) : Fn Tryz.prog 7 #[] w fun v N => v = .bool true ∧ N = [] := ev_true (fuel := 6000) [] (TabOk.nil _ _) (GbOk.nil _) (by kernel_rfl)
end Go.Proofs.YtonmkjcilepdcaaGreatDoor
