/-
  DERIVED. GIVEN WITH THE SEED: THE CARDS: each row of YtlbmnokpiilfpaaGreatDoorRows.lean that lists a variable, with what it lists TIED to the program's text (the seventh form; the later family's looks); each row that meets fmt, with fmt's text TOLD by the authors' own Lean function (tested against real Go, not proved from fmt's source: count such statements apart). THE CARD IS WHAT COUNTS. Prove the row's statement (the work); the ties are given (YtlbmnokpiilfpaaGreatDoorTie.lean); close each card by the builder's one call (the guide's Derived/Test/ToyasCard.lean, 'card_holds'). Laid BY PROGRAM, IN A SANDBOX (cutbox-door.mjs). By AI agents, Wed Nov 11 2026. No macro, syntax, notation, axiom, sorry.
-/
import Derived.Test.YtlbmnokpiilfpaaGreatDoorRows
import GoSem.ClaimSeven
namespace Go.Proofs.YtlbmnokpiilfpaaGreatDoor
namespace Rows

/-- THE TIED CARD OF 'sosoptlaw06.PolyMake'. -/
def polyMakeCard : Claim7 := { stood := { row := polyMakeRow, standIns := [], harness := (true, "79c02a25bc13aea348a1ac32bf78635de23e169052f8170047d098ecd9afc3fb"), looks := false }, kinds := [], alts := [], laidByText := true, laidKinds := [.data, .data, .data], laidTests := true, laidLooks := .later }
def PolyMakeCardSaid : Prop := Claim7.holds Tryz.pinned (.plain (OpenSpec.ofChange polyMakeSpec)) polyMakeCard

/-- THE TIED CARD OF 'sosoptlaw06.PolyMul'. -/
def polyMulCard : Claim7 := { stood := { row := polyMulRow, standIns := [], harness := (true, "79c02a25bc13aea348a1ac32bf78635de23e169052f8170047d098ecd9afc3fb"), looks := false }, kinds := [], alts := [], laidByText := true, laidKinds := [.data, .data, .data], laidTests := true, laidLooks := .later }
def PolyMulCardSaid : Prop := Claim7.holds Tryz.pinned (.plain (OpenSpec.ofChange polyMulSpec)) polyMulCard

/-- THE TIED CARD OF 'sosoptlaw06.PolyValid'. -/
def polyValidCard : Claim7 := { stood := { row := polyValidRow, standIns := [], harness := (true, "79c02a25bc13aea348a1ac32bf78635de23e169052f8170047d098ecd9afc3fb"), looks := false }, kinds := [], alts := [], laidByText := true, laidKinds := [.data, .data, .data], laidTests := true, laidLooks := .later }
def PolyValidCardSaid : Prop := Claim7.holds Tryz.pinned (.plain (OpenSpec.ofChange polyValidSpec)) polyValidCard

/-- THE TIED CARD OF 'sosoptlaw06.PolyPow'. -/
def polyPowCard : Claim7 := { stood := { row := polyPowRow, standIns := [], harness := (true, "79c02a25bc13aea348a1ac32bf78635de23e169052f8170047d098ecd9afc3fb"), looks := false }, kinds := [], alts := [], laidByText := true, laidKinds := [.data, .data, .data], laidTests := true, laidLooks := .later }
def PolyPowCardSaid : Prop := Claim7.holds Tryz.pinned (.plain (OpenSpec.ofChange polyPowSpec)) polyPowCard

/-- THE TIED CARD OF 'sosoptlaw18.GroupApply'. -/
def groupApplyCard : Claim7 := { stood := { row := groupApplyRow, standIns := [], harness := (true, "79c02a25bc13aea348a1ac32bf78635de23e169052f8170047d098ecd9afc3fb"), looks := false }, kinds := [], alts := [], laidByText := true, laidKinds := [.data, .data, .data], laidTests := true, laidLooks := .later }
def GroupApplyCardSaid : Prop := Claim7.holds Tryz.pinned (.plain (OpenSpec.ofChange groupApplySpec)) groupApplyCard

/-- THE TIED CARD OF 'sosoptlaw06.PolyLinear'. -/
def polyLinearCard : Claim7 := { stood := { row := polyLinearRow, standIns := [], harness := (true, "79c02a25bc13aea348a1ac32bf78635de23e169052f8170047d098ecd9afc3fb"), looks := false }, kinds := [], alts := [], laidByText := true, laidKinds := [.data, .data, .data], laidTests := true, laidLooks := .later }
def PolyLinearCardSaid : Prop := Claim7.holds Tryz.pinned (.plain (OpenSpec.ofChange polyLinearSpec)) polyLinearCard

/-- THE TIED CARD OF 'sosoptlaw06.PolyEval'. -/
def polyEvalCard : Claim7 := { stood := { row := polyEvalRow, standIns := [], harness := (true, "79c02a25bc13aea348a1ac32bf78635de23e169052f8170047d098ecd9afc3fb"), looks := false }, kinds := [], alts := [], laidByText := true, laidKinds := [.data, .data, .data], laidTests := true, laidLooks := .later }
def PolyEvalCardSaid : Prop := Claim7.holds Tryz.pinned (.plain (OpenSpec.ofChange polyEvalSpec)) polyEvalCard

/-- THE TIED CARD OF 'sosoptlaw06.PolyCompose'. -/
def polyComposeCard : Claim7 := { stood := { row := polyComposeRow, standIns := [], harness := (true, "79c02a25bc13aea348a1ac32bf78635de23e169052f8170047d098ecd9afc3fb"), looks := false }, kinds := [], alts := [], laidByText := true, laidKinds := [.data, .data, .data], laidTests := true, laidLooks := .later }
def PolyComposeCardSaid : Prop := Claim7.holds Tryz.pinned (.plain (OpenSpec.ofChange polyComposeSpec)) polyComposeCard

/-- THE SECOND FORM's CARD OF 'sosoptlaw06.PolyMake'. -/
def polyMakeUptoCard : Claim7 := { stood := { row := polyMakeUptoRow, standIns := [], harness := (true, "79c02a25bc13aea348a1ac32bf78635de23e169052f8170047d098ecd9afc3fb"), looks := false }, kinds := [], alts := [], laidByText := true, laidKinds := [.data, .data, .data], laidTests := true, laidLooks := .later }
def PolyMakeUptoCardSaid : Prop := Claim7.holds Tryz.pinned (.plain (OpenSpec.upto polyMakeSpec)) polyMakeUptoCard

/-- THE SECOND FORM's CARD OF 'sosoptlaw06.PolyMul'. -/
def polyMulUptoCard : Claim7 := { stood := { row := polyMulUptoRow, standIns := [], harness := (true, "79c02a25bc13aea348a1ac32bf78635de23e169052f8170047d098ecd9afc3fb"), looks := false }, kinds := [], alts := [], laidByText := true, laidKinds := [.data, .data, .data], laidTests := true, laidLooks := .later }
def PolyMulUptoCardSaid : Prop := Claim7.holds Tryz.pinned (.plain (OpenSpec.upto polyMulSpec)) polyMulUptoCard

/-- THE SECOND FORM's CARD OF 'sosoptlaw06.PolyValid'. -/
def polyValidUptoCard : Claim7 := { stood := { row := polyValidUptoRow, standIns := [], harness := (true, "79c02a25bc13aea348a1ac32bf78635de23e169052f8170047d098ecd9afc3fb"), looks := false }, kinds := [], alts := [], laidByText := true, laidKinds := [.data, .data, .data], laidTests := true, laidLooks := .later }
def PolyValidUptoCardSaid : Prop := Claim7.holds Tryz.pinned (.plain (OpenSpec.upto polyValidSpec)) polyValidUptoCard

/-- THE SECOND FORM's CARD OF 'sosoptlaw06.PolyPow'. -/
def polyPowUptoCard : Claim7 := { stood := { row := polyPowUptoRow, standIns := [], harness := (true, "79c02a25bc13aea348a1ac32bf78635de23e169052f8170047d098ecd9afc3fb"), looks := false }, kinds := [], alts := [], laidByText := true, laidKinds := [.data, .data, .data], laidTests := true, laidLooks := .later }
def PolyPowUptoCardSaid : Prop := Claim7.holds Tryz.pinned (.plain (OpenSpec.upto polyPowSpec)) polyPowUptoCard

/-- THE SECOND FORM's CARD OF 'sosoptlaw18.GroupApply'. -/
def groupApplyUptoCard : Claim7 := { stood := { row := groupApplyUptoRow, standIns := [], harness := (true, "79c02a25bc13aea348a1ac32bf78635de23e169052f8170047d098ecd9afc3fb"), looks := false }, kinds := [], alts := [], laidByText := true, laidKinds := [.data, .data, .data], laidTests := true, laidLooks := .later }
def GroupApplyUptoCardSaid : Prop := Claim7.holds Tryz.pinned (.plain (OpenSpec.upto groupApplySpec)) groupApplyUptoCard

/-- THE SECOND FORM's CARD OF 'sosoptlaw06.PolyLinear'. -/
def polyLinearUptoCard : Claim7 := { stood := { row := polyLinearUptoRow, standIns := [], harness := (true, "79c02a25bc13aea348a1ac32bf78635de23e169052f8170047d098ecd9afc3fb"), looks := false }, kinds := [], alts := [], laidByText := true, laidKinds := [.data, .data, .data], laidTests := true, laidLooks := .later }
def PolyLinearUptoCardSaid : Prop := Claim7.holds Tryz.pinned (.plain (OpenSpec.upto polyLinearSpec)) polyLinearUptoCard

/-- THE SECOND FORM's CARD OF 'sosoptlaw06.PolyEval'. -/
def polyEvalUptoCard : Claim7 := { stood := { row := polyEvalUptoRow, standIns := [], harness := (true, "79c02a25bc13aea348a1ac32bf78635de23e169052f8170047d098ecd9afc3fb"), looks := false }, kinds := [], alts := [], laidByText := true, laidKinds := [.data, .data, .data], laidTests := true, laidLooks := .later }
def PolyEvalUptoCardSaid : Prop := Claim7.holds Tryz.pinned (.plain (OpenSpec.upto polyEvalSpec)) polyEvalUptoCard

/-- THE SECOND FORM's CARD OF 'sosoptlaw06.PolyCompose'. -/
def polyComposeUptoCard : Claim7 := { stood := { row := polyComposeUptoRow, standIns := [], harness := (true, "79c02a25bc13aea348a1ac32bf78635de23e169052f8170047d098ecd9afc3fb"), looks := false }, kinds := [], alts := [], laidByText := true, laidKinds := [.data, .data, .data], laidTests := true, laidLooks := .later }
def PolyComposeUptoCardSaid : Prop := Claim7.holds Tryz.pinned (.plain (OpenSpec.upto polyComposeSpec)) polyComposeUptoCard
end Rows
end Go.Proofs.YtlbmnokpiilfpaaGreatDoor
