import Derived.Test.YtchoncjikdfbgaaDoorMod4
import Derived.Test.YtchoncjikdfbgaaDoorGas4
import Derived.Test.YtchoncjikdfbgaaDoorRows3
import Derived.Test.YtchoncjikdfbgaaDoorBytes
/- Layer 9: the chapter's examples; what is too long; the laws ModexpGas and ModexpPowers. -/
namespace Go.Proofs.YtchoncjikdfbgaaDoor
open Go.RowKit
set_option maxRecDepth 20000
set_option maxHeartbeats 4000000

theorem Rd.nil (w : World) (k : IntKind) : Rd w (.slice none 0 0) k [] := ⟨none, 0, rfl, Nat.le_refl _, .inl rfl⟩
theorem gasN_nil : gasN 0 0 = 200 := by
  unfold gasN lenN qN
  simp
theorem str1 : strI (bel 1 5) = ⟨#[5]⟩ := by kernel_rfl
theorem str2 : strI (bel 1 1) = ⟨#[1]⟩ := by kernel_rfl
end Go.Proofs.YtchoncjikdfbgaaDoor
