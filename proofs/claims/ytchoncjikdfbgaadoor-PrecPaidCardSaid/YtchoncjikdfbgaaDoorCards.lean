/-
  DERIVED. GIVEN WITH THE SEED: THE CARDS: each row of YtchoncjikdfbgaaDoorRows.lean that lists a variable, with what it lists TIED to the program's text (the seventh form; the later family's looks); each row that meets fmt, with fmt's text TOLD by the authors' own Lean function (tested against real Go, not proved from fmt's source: count such statements apart). THE CARD IS WHAT COUNTS. Prove the row's statement (the work); the ties are given (YtchoncjikdfbgaaDoorTie.lean); close each card by the builder's one call (the guide's Derived/Test/ToyasCard.lean, 'card_holds'). Laid BY PROGRAM, IN A SANDBOX (cutbox-door.mjs). By AI agents, Wed Nov 11 2026. No macro, syntax, notation, axiom, sorry.
-/
import Derived.Test.YtchoncjikdfbgaaDoorRows
import GoSem.ClaimSeven
namespace Go.Proofs.YtchoncjikdfbgaaDoor
namespace Rows

/-- THE TIED CARD OF 'smithylaw16.PrecPaid'. -/
def precPaidCard : Claim7 := { stood := { row := precPaidRow, standIns := [], harness := (true, "36d1c5bab63b7eaf93ba49c663f11b04eb23bd64bdb1bc847e0b8d0d6884b80e"), looks := false }, kinds := [], alts := [], laidByText := true, laidKinds := [.data], laidTests := true, laidLooks := .later }
def PrecPaidCardSaid : Prop := Claim7.holds Tryd.pinned (.plain (OpenSpec.ofChange precPaidSpec)) precPaidCard

/-- THE TIED CARD OF 'smithylaw16.PrecRuns'. -/
def precRunsCard : Claim7 := { stood := { row := precRunsRow, standIns := [], harness := (true, "36d1c5bab63b7eaf93ba49c663f11b04eb23bd64bdb1bc847e0b8d0d6884b80e"), looks := false }, kinds := [], alts := [], laidByText := true, laidKinds := [.data], laidTests := true, laidLooks := .later }
def PrecRunsCardSaid : Prop := Claim7.holds Tryd.pinned (.plain (OpenSpec.ofChange precRunsSpec)) precRunsCard

/-- THE SECOND FORM's CARD OF 'smithylaw16.PrecPaid'. -/
def precPaidUptoCard : Claim7 := { stood := { row := precPaidUptoRow, standIns := [], harness := (true, "36d1c5bab63b7eaf93ba49c663f11b04eb23bd64bdb1bc847e0b8d0d6884b80e"), looks := false }, kinds := [], alts := [], laidByText := true, laidKinds := [.data], laidTests := true, laidLooks := .later }
def PrecPaidUptoCardSaid : Prop := Claim7.holds Tryd.pinned (.plain (OpenSpec.upto precPaidSpec)) precPaidUptoCard

/-- THE SECOND FORM's CARD OF 'smithylaw16.PrecRuns'. -/
def precRunsUptoCard : Claim7 := { stood := { row := precRunsUptoRow, standIns := [], harness := (true, "36d1c5bab63b7eaf93ba49c663f11b04eb23bd64bdb1bc847e0b8d0d6884b80e"), looks := false }, kinds := [], alts := [], laidByText := true, laidKinds := [.data], laidTests := true, laidLooks := .later }
def PrecRunsUptoCardSaid : Prop := Claim7.holds Tryd.pinned (.plain (OpenSpec.upto precRunsSpec)) precRunsUptoCard
end Rows
end Go.Proofs.YtchoncjikdfbgaaDoor
