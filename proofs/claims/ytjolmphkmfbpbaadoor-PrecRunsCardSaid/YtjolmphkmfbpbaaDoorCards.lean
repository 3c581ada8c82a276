/-
  DERIVED. GIVEN WITH THE SEED: THE CARDS: each row of YtjolmphkmfbpbaaDoorRows.lean that lists a variable, with what it lists TIED to the program's text (the seventh form; the later family's looks); each row that meets fmt, with fmt's text TOLD by the authors' own Lean function (tested against real Go, not proved from fmt's source: count such statements apart). THE CARD IS WHAT COUNTS. Prove the row's statement (the work); the ties are given (YtjolmphkmfbpbaaDoorTie.lean); close each card by the builder's one call (the guide's Derived/Test/ToyasCard.lean, 'card_holds'). Laid BY PROGRAM, IN A SANDBOX (cutbox-door.mjs). By AI agents, Wed Nov 11 2026. No macro, syntax, notation, axiom, sorry.
-/
import Derived.Test.YtjolmphkmfbpbaaDoorRows
import GoSem.ClaimSeven
namespace Go.Proofs.YtjolmphkmfbpbaaDoor
namespace Rows

/-- THE TIED CARD OF 'smithylaw16.PrecRuns'. -/
def precRunsCard : Claim7 := { stood := { row := precRunsRow, standIns := [], harness := (true, "6fe4112da1c844ffddd99ead3c0a86803075e306b7ea5b2cdd330da74cfb096a"), looks := false }, kinds := [], alts := [], laidByText := true, laidKinds := [.data], laidTests := true, laidLooks := .later }
def PrecRunsCardSaid : Prop := Claim7.holds Tryd.pinned (.plain (OpenSpec.ofChange precRunsSpec)) precRunsCard

/-- THE SECOND FORM's CARD OF 'smithylaw16.PrecRuns'. -/
def precRunsUptoCard : Claim7 := { stood := { row := precRunsUptoRow, standIns := [], harness := (true, "6fe4112da1c844ffddd99ead3c0a86803075e306b7ea5b2cdd330da74cfb096a"), looks := false }, kinds := [], alts := [], laidByText := true, laidKinds := [.data], laidTests := true, laidLooks := .later }
def PrecRunsUptoCardSaid : Prop := Claim7.holds Tryd.pinned (.plain (OpenSpec.upto precRunsSpec)) precRunsUptoCard
end Rows
end Go.Proofs.YtjolmphkmfbpbaaDoor
