/-
  DERIVED. GIVEN WITH THE SEED: THE CARDS: each row of YtonmkjcilepdcaaGreatDoorRows.lean that lists a variable, with what it lists TIED to the program's text (the seventh form; the later family's looks); each row that meets fmt, with fmt's text TOLD by the authors' own Lean function (tested against real Go, not proved from fmt's source: count such statements apart). THE CARD IS WHAT COUNTS. Prove the row's statement (the work); the ties are given (YtonmkjcilepdcaaGreatDoorTie.lean); close each card by the builder's one call (the guide's Derived/Test/ToyasCard.lean, 'card_holds'). Laid BY PROGRAM, IN A SANDBOX (cutbox-door.mjs). By AI agents, Wed Nov 11 2026. No macro, syntax, notation, axiom, sorry.
-/
import Derived.Test.YtonmkjcilepdcaaGreatDoorRows
import GoSem.ClaimSeven
namespace Go.Proofs.YtonmkjcilepdcaaGreatDoor
namespace Rows

/-- THE TIED CARD OF 'smithylaw20.ExecMissing'. -/
def execMissingCard : Claim7 := { stood := { row := execMissingRow, standIns := [], harness := (true, "9cc8716b76cce3e3e5a936bd0994a7dbcad8f5160432e7ec89a334769736eb4c"), looks := true }, kinds := [], alts := [], laidByText := true, laidKinds := [.data, .data, .data, .data, .data, .data, .data], laidTests := true, laidLooks := .later }
def ExecMissingCardSaid : Prop := Claim7.holds Tryz.pinned (.plain (OpenSpec.ofChange execMissingSpec)) execMissingCard

/-- THE TIED CARD OF 'smithylaw24.ChainNil'. -/
def chainNilCard : Claim7 := { stood := { row := chainNilRow, standIns := [], harness := (true, "9cc8716b76cce3e3e5a936bd0994a7dbcad8f5160432e7ec89a334769736eb4c"), looks := true }, kinds := [], alts := [], laidByText := true, laidKinds := [.data, .data, .data, .data, .data, .data, .data], laidTests := true, laidLooks := .later }
def ChainNilCardSaid : Prop := Claim7.holds Tryz.pinned (.plain (OpenSpec.ofChange chainNilSpec)) chainNilCard

/-- THE TIED CARD OF 'smithylaw25.RpcNil'. -/
def rpcNilCard : Claim7 := { stood := { row := rpcNilRow, standIns := [], harness := (true, "9cc8716b76cce3e3e5a936bd0994a7dbcad8f5160432e7ec89a334769736eb4c"), looks := true }, kinds := [], alts := [], laidByText := true, laidKinds := [.data, .data, .data, .data, .data, .data, .data], laidTests := true, laidLooks := .later }
def RpcNilCardSaid : Prop := Claim7.holds Tryz.pinned (.plain (OpenSpec.ofChange rpcNilSpec)) rpcNilCard

/-- THE SECOND FORM's CARD OF 'smithylaw20.ExecMissing'. -/
def execMissingUptoCard : Claim7 := { stood := { row := execMissingUptoRow, standIns := [], harness := (true, "9cc8716b76cce3e3e5a936bd0994a7dbcad8f5160432e7ec89a334769736eb4c"), looks := true }, kinds := [], alts := [], laidByText := true, laidKinds := [.data, .data, .data, .data, .data, .data, .data], laidTests := true, laidLooks := .later }
def ExecMissingUptoCardSaid : Prop := Claim7.holds Tryz.pinned (.plain (OpenSpec.upto execMissingSpec)) execMissingUptoCard

/-- THE SECOND FORM's CARD OF 'smithylaw24.ChainNil'. -/
def chainNilUptoCard : Claim7 := { stood := { row := chainNilUptoRow, standIns := [], harness := (true, "9cc8716b76cce3e3e5a936bd0994a7dbcad8f5160432e7ec89a334769736eb4c"), looks := true }, kinds := [], alts := [], laidByText := true, laidKinds := [.data, .data, .data, .data, .data, .data, .data], laidTests := true, laidLooks := .later }
def ChainNilUptoCardSaid : Prop := Claim7.holds Tryz.pinned (.plain (OpenSpec.upto chainNilSpec)) chainNilUptoCard

/-- THE SECOND FORM's CARD OF 'smithylaw25.RpcNil'. -/
def rpcNilUptoCard : Claim7 := { stood := { row := rpcNilUptoRow, standIns := [], harness := (true, "9cc8716b76cce3e3e5a936bd0994a7dbcad8f5160432e7ec89a334769736eb4c"), looks := true }, kinds := [], alts := [], laidByText := true, laidKinds := [.data, .data, .data, .data, .data, .data, .data], laidTests := true, laidLooks := .later }
def RpcNilUptoCardSaid : Prop := Claim7.holds Tryz.pinned (.plain (OpenSpec.upto rpcNilSpec)) rpcNilUptoCard
end Rows
end Go.Proofs.YtonmkjcilepdcaaGreatDoor
