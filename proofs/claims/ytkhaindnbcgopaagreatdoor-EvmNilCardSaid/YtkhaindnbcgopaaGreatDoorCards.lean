/-
  DERIVED. GIVEN WITH THE SEED: THE CARDS: each row of YtkhaindnbcgopaaGreatDoorRows.lean that lists a variable, with what it lists TIED to the program's text (the seventh form; the later family's looks); each row that meets fmt, with fmt's text TOLD by the authors' own Lean function (tested against real Go, not proved from fmt's source: count such statements apart). THE CARD IS WHAT COUNTS. Prove the row's statement (the work); the ties are given (YtkhaindnbcgopaaGreatDoorTie.lean); close each card by the builder's one call (the guide's Derived/Test/ToyasCard.lean, 'card_holds'). Laid BY PROGRAM, IN A SANDBOX (cutbox-door.mjs). By AI agents, Wed Nov 11 2026. No macro, syntax, notation, axiom, sorry.
-/
import Derived.Test.YtkhaindnbcgopaaGreatDoorRows
import GoSem.ClaimSeven
namespace Go.Proofs.YtkhaindnbcgopaaGreatDoor
namespace Rows

/-- THE TIED CARD OF 'smithylaw18.EvmNil'. -/
def evmNilCard : Claim7 := { stood := { row := evmNilRow, standIns := [], harness := (true, "5bdc7a0b3025158bf807d00018f203a2274c96e2f63050284e3fea798ac788fa"), looks := false }, kinds := [], alts := [], laidByText := true, laidKinds := [.data, .data, .data, .data, .data, .data, .data], laidTests := true, laidLooks := .later }
def EvmNilCardSaid : Prop := Claim7.holds Tryz.pinned (.plain (OpenSpec.ofChange evmNilSpec)) evmNilCard

/-- THE TIED CARD OF 'smithylaw20.ExecMissing'. -/
def execMissingCard : Claim7 := { stood := { row := execMissingRow, standIns := [], harness := (true, "5bdc7a0b3025158bf807d00018f203a2274c96e2f63050284e3fea798ac788fa"), looks := false }, kinds := [], alts := [], laidByText := true, laidKinds := [.data, .data, .data, .data, .data, .data, .data], laidTests := true, laidLooks := .later }
def ExecMissingCardSaid : Prop := Claim7.holds Tryz.pinned (.plain (OpenSpec.ofChange execMissingSpec)) execMissingCard

/-- THE SECOND FORM's CARD OF 'smithylaw18.EvmNil'. -/
def evmNilUptoCard : Claim7 := { stood := { row := evmNilUptoRow, standIns := [], harness := (true, "5bdc7a0b3025158bf807d00018f203a2274c96e2f63050284e3fea798ac788fa"), looks := false }, kinds := [], alts := [], laidByText := true, laidKinds := [.data, .data, .data, .data, .data, .data, .data], laidTests := true, laidLooks := .later }
def EvmNilUptoCardSaid : Prop := Claim7.holds Tryz.pinned (.plain (OpenSpec.upto evmNilSpec)) evmNilUptoCard

/-- THE SECOND FORM's CARD OF 'smithylaw20.ExecMissing'. -/
def execMissingUptoCard : Claim7 := { stood := { row := execMissingUptoRow, standIns := [], harness := (true, "5bdc7a0b3025158bf807d00018f203a2274c96e2f63050284e3fea798ac788fa"), looks := false }, kinds := [], alts := [], laidByText := true, laidKinds := [.data, .data, .data, .data, .data, .data, .data], laidTests := true, laidLooks := .later }
def ExecMissingUptoCardSaid : Prop := Claim7.holds Tryz.pinned (.plain (OpenSpec.upto execMissingSpec)) execMissingUptoCard
end Rows
end Go.Proofs.YtkhaindnbcgopaaGreatDoor
