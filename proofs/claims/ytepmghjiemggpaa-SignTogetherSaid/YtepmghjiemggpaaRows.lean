/-
  No cell of these rows narrows 'for every input' (looked for: loops, veiled, ifaces, maps, wideKeys, modest, calm, conditions, laid).
  DERIVED. THE GIVEN ROWS OF THIS SEAT. 10 by the template 'for every input the law returns true; each argument reads behind the call as it read before'; 0 by the template 'total and deterministic' (their statements: YtepmghjiemggpaaTotals.lean).
  GIVEN WITH THE SEED: the statements are not yours to turn. If you find one false, say at which input.
  Laid BY PROGRAM, IN A SANDBOX (cutbox-rows.mjs): the forced cells as the released guide's own fill.sh prints them over the translation 40a8796374974f5e… (all of the seat's roots in one cut). By AI agents, Wed Nov 11 2026. No macro, syntax, notation, axiom, sorry.
-/
import Derived.Test.YtepmghjiemggpaaChecked
import GoSem.Claim
import GoSem.ClaimJoined
import GoSem.ClaimMapViews
import Derived.JoinedTies
import Derived.KernelRfl
namespace Go.Proofs.Ytepmghjiemggpaa
/- THE CELL 'sum', in the pinned program and in every row, IS THE sha256 OF THE DUMP (.gsa) THAT YtepmghjiemggpaaProg.lean LOADS. Nothing in Lean hashes anything: it is a label: what it is worth is what the hold of that sum in a sandbox is worth. -/
noncomputable def Try.pinned : Pinned := { name := "ytepmghjiemggpaa", sum := "40a8796374974f5ec128a2134ba38f35aee4ca95dc86831f625fdda8a65b6abe", checked := Try.checked }
namespace Rows
def none {H : Type} : Left H := { results := [], args := [] }

/-- 'smithylaw01.WordBytes': WHATEVER THE INPUT: true; the input reads as it did. -/
def wordBytesSpec : ChangeSpec := { name := "wordBytes", fn := fun _ => fun
  | [d1, d2] => { results := [.lit (.bool true)], args := [d1, d2] }
  | _ => none }
def wordBytesRow : OpenClaim := { program := "ytepmghjiemggpaa", sum := "40a8796374974f5ec128a2134ba38f35aee4ca95dc86831f625fdda8a65b6abe", func := "smithy/smithylaw01.WordBytes", spec := "wordBytes", inPlace := ["math/bits.Sub64", "math/bits.Add64"], apart := false }
def WordBytesSaid : Prop := wordBytesRow.holds Try.pinned (OpenSpec.ofChange wordBytesSpec)

/-- ITS FALSE NEIGHBOUR: 'it returns false'. Refute it at one input. -/
def wordBytesWrong : ChangeSpec := { name := "wordBytes", fn := fun _ => fun
  | [d1, d2] => { results := [.lit (.bool false)], args := [d1, d2] }
  | _ => none }
def WordBytesWrongFalsely : Prop := wordBytesRow.holds Try.pinned (OpenSpec.ofChange wordBytesWrong)

/-- 'smithylaw01.WordParts': WHATEVER THE INPUT: true; the input reads as it did. -/
def wordPartsSpec : ChangeSpec := { name := "wordParts", fn := fun _ => fun
  | [d1, d2, d3] => { results := [.lit (.bool true)], args := [d1, d2, d3] }
  | _ => none }
def wordPartsRow : OpenClaim := { program := "ytepmghjiemggpaa", sum := "40a8796374974f5ec128a2134ba38f35aee4ca95dc86831f625fdda8a65b6abe", func := "smithy/smithylaw01.WordParts", spec := "wordParts", inPlace := ["math/bits.Sub64", "math/bits.Add64"], apart := false }
def WordPartsSaid : Prop := wordPartsRow.holds Try.pinned (OpenSpec.ofChange wordPartsSpec)

/-- ITS FALSE NEIGHBOUR: 'it returns false'. Refute it at one input. -/
def wordPartsWrong : ChangeSpec := { name := "wordParts", fn := fun _ => fun
  | [d1, d2, d3] => { results := [.lit (.bool false)], args := [d1, d2, d3] }
  | _ => none }
def WordPartsWrongFalsely : Prop := wordPartsRow.holds Try.pinned (OpenSpec.ofChange wordPartsWrong)

/-- 'smithylaw21.FeeNext': WHATEVER THE INPUT: true; the input reads as it did. -/
def feeNextSpec : ChangeSpec := { name := "feeNext", fn := fun _ => fun
  | [d1, d2, d3] => { results := [.lit (.bool true)], args := [d1, d2, d3] }
  | _ => none }
def feeNextRow : OpenClaim := { program := "ytepmghjiemggpaa", sum := "40a8796374974f5ec128a2134ba38f35aee4ca95dc86831f625fdda8a65b6abe", func := "smithy/smithylaw21.FeeNext", spec := "feeNext", inPlace := ["math/bits.Add64", "math/bits.Sub64"], apart := false }
def FeeNextSaid : Prop := feeNextRow.holds Try.pinned (OpenSpec.ofChange feeNextSpec)

/-- ITS FALSE NEIGHBOUR: 'it returns false'. Refute it at one input. -/
def feeNextWrong : ChangeSpec := { name := "feeNext", fn := fun _ => fun
  | [d1, d2, d3] => { results := [.lit (.bool false)], args := [d1, d2, d3] }
  | _ => none }
def FeeNextWrongFalsely : Prop := feeNextRow.holds Try.pinned (OpenSpec.ofChange feeNextWrong)

/-- 'smithylaw21.FeeEighth': WHATEVER THE INPUT: true; the input reads as it did. -/
def feeEighthSpec : ChangeSpec := { name := "feeEighth", fn := fun _ => fun
  | [d1, d2, d3] => { results := [.lit (.bool true)], args := [d1, d2, d3] }
  | _ => none }
def feeEighthRow : OpenClaim := { program := "ytepmghjiemggpaa", sum := "40a8796374974f5ec128a2134ba38f35aee4ca95dc86831f625fdda8a65b6abe", func := "smithy/smithylaw21.FeeEighth", spec := "feeEighth", inPlace := ["math/bits.Add64", "math/bits.Sub64"], apart := false }
def FeeEighthSaid : Prop := feeEighthRow.holds Try.pinned (OpenSpec.ofChange feeEighthSpec)

/-- ITS FALSE NEIGHBOUR: 'it returns false'. Refute it at one input. -/
def feeEighthWrong : ChangeSpec := { name := "feeEighth", fn := fun _ => fun
  | [d1, d2, d3] => { results := [.lit (.bool false)], args := [d1, d2, d3] }
  | _ => none }
def FeeEighthWrongFalsely : Prop := feeEighthRow.holds Try.pinned (OpenSpec.ofChange feeEighthWrong)

/-- 'smithylaw21.FeeMore': WHATEVER THE INPUT: true; the input reads as it did. -/
def feeMoreSpec : ChangeSpec := { name := "feeMore", fn := fun _ => fun
  | [d1, d2, d3, d4] => { results := [.lit (.bool true)], args := [d1, d2, d3, d4] }
  | _ => none }
def feeMoreRow : OpenClaim := { program := "ytepmghjiemggpaa", sum := "40a8796374974f5ec128a2134ba38f35aee4ca95dc86831f625fdda8a65b6abe", func := "smithy/smithylaw21.FeeMore", spec := "feeMore", inPlace := ["math/bits.Add64", "math/bits.Sub64"], apart := false }
def FeeMoreSaid : Prop := feeMoreRow.holds Try.pinned (OpenSpec.ofChange feeMoreSpec)

/-- ITS FALSE NEIGHBOUR: 'it returns false'. Refute it at one input. -/
def feeMoreWrong : ChangeSpec := { name := "feeMore", fn := fun _ => fun
  | [d1, d2, d3, d4] => { results := [.lit (.bool false)], args := [d1, d2, d3, d4] }
  | _ => none }
def FeeMoreWrongFalsely : Prop := feeMoreRow.holds Try.pinned (OpenSpec.ofChange feeMoreWrong)

/-- 'smithylaw03.SignDivides': WHATEVER THE INPUT: true; the input reads as it did. -/
def signDividesSpec : ChangeSpec := { name := "signDivides", fn := fun _ => fun
  | [d1, d2] => { results := [.lit (.bool true)], args := [d1, d2] }
  | _ => none }
def signDividesRow : OpenClaim := { program := "ytepmghjiemggpaa", sum := "40a8796374974f5ec128a2134ba38f35aee4ca95dc86831f625fdda8a65b6abe", func := "smithy/smithylaw03.SignDivides", spec := "signDivides", inPlace := ["math/bits.Sub64"], named := ["math/bits.divideError", "math/bits.overflowError"], apart := false }
def SignDividesSaid : Prop := signDividesRow.holds Try.pinned (OpenSpec.ofChange signDividesSpec)

/-- ITS FALSE NEIGHBOUR: 'it returns false'. Refute it at one input. -/
def signDividesWrong : ChangeSpec := { name := "signDivides", fn := fun _ => fun
  | [d1, d2] => { results := [.lit (.bool false)], args := [d1, d2] }
  | _ => none }
def SignDividesWrongFalsely : Prop := signDividesRow.holds Try.pinned (OpenSpec.ofChange signDividesWrong)

/-- 'smithylaw03.SignTogether': WHATEVER THE INPUT: true; the input reads as it did. -/
def signTogetherSpec : ChangeSpec := { name := "signTogether", fn := fun _ => fun
  | [d1, d2] => { results := [.lit (.bool true)], args := [d1, d2] }
  | _ => none }
def signTogetherRow : OpenClaim := { program := "ytepmghjiemggpaa", sum := "40a8796374974f5ec128a2134ba38f35aee4ca95dc86831f625fdda8a65b6abe", func := "smithy/smithylaw03.SignTogether", spec := "signTogether", inPlace := ["math/bits.Sub64"], named := ["math/bits.divideError", "math/bits.overflowError"], apart := false }
def SignTogetherSaid : Prop := signTogetherRow.holds Try.pinned (OpenSpec.ofChange signTogetherSpec)

/-- ITS FALSE NEIGHBOUR: 'it returns false'. Refute it at one input. -/
def signTogetherWrong : ChangeSpec := { name := "signTogether", fn := fun _ => fun
  | [d1, d2] => { results := [.lit (.bool false)], args := [d1, d2] }
  | _ => none }
def SignTogetherWrongFalsely : Prop := signTogetherRow.holds Try.pinned (OpenSpec.ofChange signTogetherWrong)

/-- 'smithylaw03.SignLess': WHATEVER THE INPUT: true; the input reads as it did. -/
def signLessSpec : ChangeSpec := { name := "signLess", fn := fun _ => fun
  | [d1, d2] => { results := [.lit (.bool true)], args := [d1, d2] }
  | _ => none }
def signLessRow : OpenClaim := { program := "ytepmghjiemggpaa", sum := "40a8796374974f5ec128a2134ba38f35aee4ca95dc86831f625fdda8a65b6abe", func := "smithy/smithylaw03.SignLess", spec := "signLess", inPlace := ["math/bits.Sub64"], named := ["math/bits.divideError", "math/bits.overflowError"], apart := false }
def SignLessSaid : Prop := signLessRow.holds Try.pinned (OpenSpec.ofChange signLessSpec)

/-- ITS FALSE NEIGHBOUR: 'it returns false'. Refute it at one input. -/
def signLessWrong : ChangeSpec := { name := "signLess", fn := fun _ => fun
  | [d1, d2] => { results := [.lit (.bool false)], args := [d1, d2] }
  | _ => none }
def SignLessWrongFalsely : Prop := signLessRow.holds Try.pinned (OpenSpec.ofChange signLessWrong)

/-- 'smithylaw03.SignExtends': WHATEVER THE INPUT: true; the input reads as it did. -/
def signExtendsSpec : ChangeSpec := { name := "signExtends", fn := fun _ => fun
  | [d1, d2] => { results := [.lit (.bool true)], args := [d1, d2] }
  | _ => none }
def signExtendsRow : OpenClaim := { program := "ytepmghjiemggpaa", sum := "40a8796374974f5ec128a2134ba38f35aee4ca95dc86831f625fdda8a65b6abe", func := "smithy/smithylaw03.SignExtends", spec := "signExtends", inPlace := ["math/bits.Sub64"], named := ["math/bits.divideError", "math/bits.overflowError"], apart := false }
def SignExtendsSaid : Prop := signExtendsRow.holds Try.pinned (OpenSpec.ofChange signExtendsSpec)

/-- ITS FALSE NEIGHBOUR: 'it returns false'. Refute it at one input. -/
def signExtendsWrong : ChangeSpec := { name := "signExtends", fn := fun _ => fun
  | [d1, d2] => { results := [.lit (.bool false)], args := [d1, d2] }
  | _ => none }
def SignExtendsWrongFalsely : Prop := signExtendsRow.holds Try.pinned (OpenSpec.ofChange signExtendsWrong)

/-- 'smithylaw03.SignShifts': WHATEVER THE INPUT: true; the input reads as it did. -/
def signShiftsSpec : ChangeSpec := { name := "signShifts", fn := fun _ => fun
  | [d1, d2] => { results := [.lit (.bool true)], args := [d1, d2] }
  | _ => none }
def signShiftsRow : OpenClaim := { program := "ytepmghjiemggpaa", sum := "40a8796374974f5ec128a2134ba38f35aee4ca95dc86831f625fdda8a65b6abe", func := "smithy/smithylaw03.SignShifts", spec := "signShifts", inPlace := ["math/bits.Sub64"], named := ["math/bits.divideError", "math/bits.overflowError"], apart := false }
def SignShiftsSaid : Prop := signShiftsRow.holds Try.pinned (OpenSpec.ofChange signShiftsSpec)

/-- ITS FALSE NEIGHBOUR: 'it returns false'. Refute it at one input. -/
def signShiftsWrong : ChangeSpec := { name := "signShifts", fn := fun _ => fun
  | [d1, d2] => { results := [.lit (.bool false)], args := [d1, d2] }
  | _ => none }
def SignShiftsWrongFalsely : Prop := signShiftsRow.holds Try.pinned (OpenSpec.ofChange signShiftsWrong)

/- THE SECOND FORM. 'bulk': how many values and letters a reading holds, each counted each time it is reached (what is shared counts as often as it is met; a slice's spare places count too). A statement '..UptoSaid' is the law's where the arguments, and the package variables that the reading takes, are together of bulk at most 1048576: NARROWER than '..Said'. Prove '..Said' where nothing that the law and all that it calls make is longer than what came in: it says more and counts as full. Else prove '..UptoSaid'. A law counts once. -/
mutual
def uptoBulk {H : Type} : DataW H → Nat
  | .lit (.string bytes) => bytes.length + 1
  | .lit _ => 1
  | .nil => 1
  | .ptr d => uptoBulk d + 1
  | .slice elems spare => uptoBulkAll elems + uptoBulkAll spare + 1
  | .agg parts => uptoBulkAll parts + 1
  | .iface _ d => uptoBulk d + 1
  | .map entries => uptoBulkEntries entries + 1
  | .held _ => 1
def uptoBulkAll {H : Type} : List (DataW H) → Nat
  | [] => 0
  | d :: r => uptoBulk d + uptoBulkAll r
def uptoBulkEntries {H : Type} : List (Lit × DataW H) → Nat
  | [] => 0
  | x :: r => uptoBulkEntry x + uptoBulkEntries r
def uptoBulkEntry {H : Type} : Lit × DataW H → Nat
  | (.string bytes, d) => bytes.length + uptoBulk d + 1
  | (_, d) => uptoBulk d + 1
 end
def uptoSmall : (H : Type) → List (DataW H) → Bool := fun _ ds => decide (uptoBulkAll ds ≤ 1048576)
def OpenSpec.upto (s : _root_.Go.ChangeSpec) : _root_.Go.OpenSpec := { _root_.Go.OpenSpec.ofChange s with cond := some uptoSmall }

/-- 'smithylaw01.WordBytes', WHERE WHAT IT READS IS OF BULK AT MOST 1048576: true; the input reads as it did. -/
def wordBytesUptoRow : OpenClaim := { program := "ytepmghjiemggpaa", sum := "40a8796374974f5ec128a2134ba38f35aee4ca95dc86831f625fdda8a65b6abe", func := "smithy/smithylaw01.WordBytes", spec := "wordBytes", inPlace := ["math/bits.Sub64", "math/bits.Add64"], apart := false, narrowed := true }
def WordBytesUptoSaid : Prop := wordBytesUptoRow.holds Try.pinned (OpenSpec.upto wordBytesSpec)

/-- 'smithylaw01.WordParts', WHERE WHAT IT READS IS OF BULK AT MOST 1048576: true; the input reads as it did. -/
def wordPartsUptoRow : OpenClaim := { program := "ytepmghjiemggpaa", sum := "40a8796374974f5ec128a2134ba38f35aee4ca95dc86831f625fdda8a65b6abe", func := "smithy/smithylaw01.WordParts", spec := "wordParts", inPlace := ["math/bits.Sub64", "math/bits.Add64"], apart := false, narrowed := true }
def WordPartsUptoSaid : Prop := wordPartsUptoRow.holds Try.pinned (OpenSpec.upto wordPartsSpec)

/-- 'smithylaw21.FeeNext', WHERE WHAT IT READS IS OF BULK AT MOST 1048576: true; the input reads as it did. -/
def feeNextUptoRow : OpenClaim := { program := "ytepmghjiemggpaa", sum := "40a8796374974f5ec128a2134ba38f35aee4ca95dc86831f625fdda8a65b6abe", func := "smithy/smithylaw21.FeeNext", spec := "feeNext", inPlace := ["math/bits.Add64", "math/bits.Sub64"], apart := false, narrowed := true }
def FeeNextUptoSaid : Prop := feeNextUptoRow.holds Try.pinned (OpenSpec.upto feeNextSpec)

/-- 'smithylaw21.FeeEighth', WHERE WHAT IT READS IS OF BULK AT MOST 1048576: true; the input reads as it did. -/
def feeEighthUptoRow : OpenClaim := { program := "ytepmghjiemggpaa", sum := "40a8796374974f5ec128a2134ba38f35aee4ca95dc86831f625fdda8a65b6abe", func := "smithy/smithylaw21.FeeEighth", spec := "feeEighth", inPlace := ["math/bits.Add64", "math/bits.Sub64"], apart := false, narrowed := true }
def FeeEighthUptoSaid : Prop := feeEighthUptoRow.holds Try.pinned (OpenSpec.upto feeEighthSpec)

/-- 'smithylaw21.FeeMore', WHERE WHAT IT READS IS OF BULK AT MOST 1048576: true; the input reads as it did. -/
def feeMoreUptoRow : OpenClaim := { program := "ytepmghjiemggpaa", sum := "40a8796374974f5ec128a2134ba38f35aee4ca95dc86831f625fdda8a65b6abe", func := "smithy/smithylaw21.FeeMore", spec := "feeMore", inPlace := ["math/bits.Add64", "math/bits.Sub64"], apart := false, narrowed := true }
def FeeMoreUptoSaid : Prop := feeMoreUptoRow.holds Try.pinned (OpenSpec.upto feeMoreSpec)

/-- 'smithylaw03.SignDivides', WHERE WHAT IT READS IS OF BULK AT MOST 1048576: true; the input reads as it did. -/
def signDividesUptoRow : OpenClaim := { program := "ytepmghjiemggpaa", sum := "40a8796374974f5ec128a2134ba38f35aee4ca95dc86831f625fdda8a65b6abe", func := "smithy/smithylaw03.SignDivides", spec := "signDivides", inPlace := ["math/bits.Sub64"], named := ["math/bits.divideError", "math/bits.overflowError"], apart := false, narrowed := true }
def SignDividesUptoSaid : Prop := signDividesUptoRow.holds Try.pinned (OpenSpec.upto signDividesSpec)

/-- 'smithylaw03.SignTogether', WHERE WHAT IT READS IS OF BULK AT MOST 1048576: true; the input reads as it did. -/
def signTogetherUptoRow : OpenClaim := { program := "ytepmghjiemggpaa", sum := "40a8796374974f5ec128a2134ba38f35aee4ca95dc86831f625fdda8a65b6abe", func := "smithy/smithylaw03.SignTogether", spec := "signTogether", inPlace := ["math/bits.Sub64"], named := ["math/bits.divideError", "math/bits.overflowError"], apart := false, narrowed := true }
def SignTogetherUptoSaid : Prop := signTogetherUptoRow.holds Try.pinned (OpenSpec.upto signTogetherSpec)

/-- 'smithylaw03.SignLess', WHERE WHAT IT READS IS OF BULK AT MOST 1048576: true; the input reads as it did. -/
def signLessUptoRow : OpenClaim := { program := "ytepmghjiemggpaa", sum := "40a8796374974f5ec128a2134ba38f35aee4ca95dc86831f625fdda8a65b6abe", func := "smithy/smithylaw03.SignLess", spec := "signLess", inPlace := ["math/bits.Sub64"], named := ["math/bits.divideError", "math/bits.overflowError"], apart := false, narrowed := true }
def SignLessUptoSaid : Prop := signLessUptoRow.holds Try.pinned (OpenSpec.upto signLessSpec)

/-- 'smithylaw03.SignExtends', WHERE WHAT IT READS IS OF BULK AT MOST 1048576: true; the input reads as it did. -/
def signExtendsUptoRow : OpenClaim := { program := "ytepmghjiemggpaa", sum := "40a8796374974f5ec128a2134ba38f35aee4ca95dc86831f625fdda8a65b6abe", func := "smithy/smithylaw03.SignExtends", spec := "signExtends", inPlace := ["math/bits.Sub64"], named := ["math/bits.divideError", "math/bits.overflowError"], apart := false, narrowed := true }
def SignExtendsUptoSaid : Prop := signExtendsUptoRow.holds Try.pinned (OpenSpec.upto signExtendsSpec)

/-- 'smithylaw03.SignShifts', WHERE WHAT IT READS IS OF BULK AT MOST 1048576: true; the input reads as it did. -/
def signShiftsUptoRow : OpenClaim := { program := "ytepmghjiemggpaa", sum := "40a8796374974f5ec128a2134ba38f35aee4ca95dc86831f625fdda8a65b6abe", func := "smithy/smithylaw03.SignShifts", spec := "signShifts", inPlace := ["math/bits.Sub64"], named := ["math/bits.divideError", "math/bits.overflowError"], apart := false, narrowed := true }
def SignShiftsUptoSaid : Prop := signShiftsUptoRow.holds Try.pinned (OpenSpec.upto signShiftsSpec)

end Rows
end Go.Proofs.Ytepmghjiemggpaa
