/-
  DERIVED. GIVEN WITH THE SEED: THE CARDS: each row of YtpkijbkpjhpfmaaGreatDoorRows.lean that lists a variable, with what it lists TIED to the program's text (the seventh form; the later family's looks); each row that meets fmt, with fmt's text TOLD by the authors' own Lean function (tested against real Go, not proved from fmt's source: count such statements apart). THE CARD IS WHAT COUNTS. Prove the row's statement (the work); the ties are given (YtpkijbkpjhpfmaaGreatDoorTie.lean); close each card by the builder's one call (the guide's Derived/Test/ToyasCard.lean, 'card_holds'). Laid BY PROGRAM, IN A SANDBOX (cutbox-door.mjs). By AI agents, Wed Nov 11 2026. No macro, syntax, notation, axiom, sorry.
-/
import Derived.Test.YtpkijbkpjhpfmaaGreatDoorRows
import GoSem.ClaimSeven
namespace Go.Proofs.YtpkijbkpjhpfmaaGreatDoor
namespace Rows

/-- THE TIED CARD OF 'sosoptlaw07.PolytextNames'. -/
def polytextNamesCard : Claim7 := { stood := { row := polytextNamesRow, standIns := [], harness := (true, "f82099197d742373ffac4ad894dee897b1745a575177d952bc0f5afdef2f9675"), looks := true }, kinds := [], alts := [], laidByText := true, laidKinds := [.data, .data, .data, .sentinel, .sentinel], laidTests := true, laidLooks := .later }
def PolytextNamesCardSaid : Prop := Claim7.holds Tryz.pinned (.plain (OpenSpec.ofChange polytextNamesSpec)) polytextNamesCard

/-- THE TIED CARD OF 'sosoptlaw07.PolytextErrors'. -/
def polytextErrorsCard : Claim7 := { stood := { row := polytextErrorsRow, standIns := [], harness := (true, "f82099197d742373ffac4ad894dee897b1745a575177d952bc0f5afdef2f9675"), looks := true }, kinds := [], alts := [], laidByText := true, laidKinds := [.data, .data, .data, .sentinel, .sentinel], laidTests := true, laidLooks := .later }
def PolytextErrorsCardSaid : Prop := Claim7.holds Tryz.pinned (.plain (OpenSpec.ofChange polytextErrorsSpec)) polytextErrorsCard

/-- THE TIED CARD OF 'sosoptlaw07.PolytextFormat'. -/
def polytextFormatCard : Claim7 := { stood := { row := polytextFormatRow, standIns := [], harness := (true, "f82099197d742373ffac4ad894dee897b1745a575177d952bc0f5afdef2f9675"), looks := true }, kinds := [], alts := [], laidByText := true, laidKinds := [.data, .data, .data, .sentinel, .sentinel], laidTests := true, laidLooks := .later }
def PolytextFormatCardSaid : Prop := Claim7.holds Tryz.pinned (.plain (OpenSpec.ofChange polytextFormatSpec)) polytextFormatCard

/-- THE TIED CARD OF 'sosoptlaw07.PolytextRoundTrip'. -/
def polytextRoundTripCard : Claim7 := { stood := { row := polytextRoundTripRow, standIns := [], harness := (true, "f82099197d742373ffac4ad894dee897b1745a575177d952bc0f5afdef2f9675"), looks := true }, kinds := [], alts := [], laidByText := true, laidKinds := [.data, .data, .data, .sentinel, .sentinel], laidTests := true, laidLooks := .later }
def PolytextRoundTripCardSaid : Prop := Claim7.holds Tryz.pinned (.plain (OpenSpec.ofChange polytextRoundTripSpec)) polytextRoundTripCard

/-- THE TIED CARD OF 'sosoptlaw07.PolytextOperators'. -/
def polytextOperatorsCard : Claim7 := { stood := { row := polytextOperatorsRow, standIns := [], harness := (true, "f82099197d742373ffac4ad894dee897b1745a575177d952bc0f5afdef2f9675"), looks := true }, kinds := [], alts := [], laidByText := true, laidKinds := [.data, .data, .data, .sentinel, .sentinel], laidTests := true, laidLooks := .later }
def PolytextOperatorsCardSaid : Prop := Claim7.holds Tryz.pinned (.plain (OpenSpec.ofChange polytextOperatorsSpec)) polytextOperatorsCard

/-- THE SECOND FORM's CARD OF 'sosoptlaw07.PolytextNames'. -/
def polytextNamesUptoCard : Claim7 := { stood := { row := polytextNamesUptoRow, standIns := [], harness := (true, "f82099197d742373ffac4ad894dee897b1745a575177d952bc0f5afdef2f9675"), looks := true }, kinds := [], alts := [], laidByText := true, laidKinds := [.data, .data, .data, .sentinel, .sentinel], laidTests := true, laidLooks := .later }
def PolytextNamesUptoCardSaid : Prop := Claim7.holds Tryz.pinned (.plain (OpenSpec.upto polytextNamesSpec)) polytextNamesUptoCard

/-- THE SECOND FORM's CARD OF 'sosoptlaw07.PolytextErrors'. -/
def polytextErrorsUptoCard : Claim7 := { stood := { row := polytextErrorsUptoRow, standIns := [], harness := (true, "f82099197d742373ffac4ad894dee897b1745a575177d952bc0f5afdef2f9675"), looks := true }, kinds := [], alts := [], laidByText := true, laidKinds := [.data, .data, .data, .sentinel, .sentinel], laidTests := true, laidLooks := .later }
def PolytextErrorsUptoCardSaid : Prop := Claim7.holds Tryz.pinned (.plain (OpenSpec.upto polytextErrorsSpec)) polytextErrorsUptoCard

/-- THE SECOND FORM's CARD OF 'sosoptlaw07.PolytextFormat'. -/
def polytextFormatUptoCard : Claim7 := { stood := { row := polytextFormatUptoRow, standIns := [], harness := (true, "f82099197d742373ffac4ad894dee897b1745a575177d952bc0f5afdef2f9675"), looks := true }, kinds := [], alts := [], laidByText := true, laidKinds := [.data, .data, .data, .sentinel, .sentinel], laidTests := true, laidLooks := .later }
def PolytextFormatUptoCardSaid : Prop := Claim7.holds Tryz.pinned (.plain (OpenSpec.upto polytextFormatSpec)) polytextFormatUptoCard

/-- THE SECOND FORM's CARD OF 'sosoptlaw07.PolytextRoundTrip'. -/
def polytextRoundTripUptoCard : Claim7 := { stood := { row := polytextRoundTripUptoRow, standIns := [], harness := (true, "f82099197d742373ffac4ad894dee897b1745a575177d952bc0f5afdef2f9675"), looks := true }, kinds := [], alts := [], laidByText := true, laidKinds := [.data, .data, .data, .sentinel, .sentinel], laidTests := true, laidLooks := .later }
def PolytextRoundTripUptoCardSaid : Prop := Claim7.holds Tryz.pinned (.plain (OpenSpec.upto polytextRoundTripSpec)) polytextRoundTripUptoCard

/-- THE SECOND FORM's CARD OF 'sosoptlaw07.PolytextOperators'. -/
def polytextOperatorsUptoCard : Claim7 := { stood := { row := polytextOperatorsUptoRow, standIns := [], harness := (true, "f82099197d742373ffac4ad894dee897b1745a575177d952bc0f5afdef2f9675"), looks := true }, kinds := [], alts := [], laidByText := true, laidKinds := [.data, .data, .data, .sentinel, .sentinel], laidTests := true, laidLooks := .later }
def PolytextOperatorsUptoCardSaid : Prop := Claim7.holds Tryz.pinned (.plain (OpenSpec.upto polytextOperatorsSpec)) polytextOperatorsUptoCard
end Rows
end Go.Proofs.YtpkijbkpjhpfmaaGreatDoor
