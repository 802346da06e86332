/-
  DERIVED. GIVEN WITH THE SEED: THE CARDS: each row of YtlpgonpfjbhmfaaGreatDoorRows.lean that lists a variable, with what it lists TIED to the program's text (the seventh form; the later family's looks); each row that meets fmt, with fmt's text TOLD by the authors' own Lean function (tested against real Go, not proved from fmt's source: count such statements apart). THE CARD IS WHAT COUNTS. Prove the row's statement (the work); the ties are given (YtlpgonpfjbhmfaaGreatDoorTie.lean); close each card by the builder's one call (the guide's Derived/Test/ToyasCard.lean, 'card_holds'). Laid BY PROGRAM, IN A SANDBOX (cutbox-door.mjs). By AI agents, Wed Nov 11 2026. No macro, syntax, notation, axiom, sorry.
-/
import Derived.Test.YtlpgonpfjbhmfaaGreatDoorRows
import GoSem.ClaimSeven
namespace Go.Proofs.YtlpgonpfjbhmfaaGreatDoor
namespace Rows

/-- THE TIED CARD OF 'sosoptlaw18.GroupAction'. -/
def groupActionCard : Claim7 := { stood := { row := groupActionRow, standIns := [], harness := (true, "764fe140ca42a36d693771de14892bc4ad3542014f1455242980ff86f0b91f5a"), looks := false }, kinds := [], alts := [], laidByText := true, laidKinds := [.data, .data, .data], laidTests := true, laidLooks := .later }
def GroupActionCardSaid : Prop := Claim7.holds Tryz.pinned (.plain (OpenSpec.ofChange groupActionSpec)) groupActionCard

/-- THE TIED CARD OF 'sosoptlaw06.PolyContent'. -/
def polyContentCard : Claim7 := { stood := { row := polyContentRow, standIns := [], harness := (true, "764fe140ca42a36d693771de14892bc4ad3542014f1455242980ff86f0b91f5a"), looks := false }, kinds := [], alts := [], laidByText := true, laidKinds := [.data, .data, .data], laidTests := true, laidLooks := .later }
def PolyContentCardSaid : Prop := Claim7.holds Tryz.pinned (.plain (OpenSpec.ofChange polyContentSpec)) polyContentCard

/-- THE TIED CARD OF 'sosoptlaw06.PolyValues'. -/
def polyValuesCard : Claim7 := { stood := { row := polyValuesRow, standIns := [], harness := (true, "764fe140ca42a36d693771de14892bc4ad3542014f1455242980ff86f0b91f5a"), looks := false }, kinds := [], alts := [], laidByText := true, laidKinds := [.data, .data, .data], laidTests := true, laidLooks := .later }
def PolyValuesCardSaid : Prop := Claim7.holds Tryz.pinned (.plain (OpenSpec.ofChange polyValuesSpec)) polyValuesCard

/-- THE TIED CARD OF 'sosoptlaw18.GroupAverage'. -/
def groupAverageCard : Claim7 := { stood := { row := groupAverageRow, standIns := [], harness := (true, "764fe140ca42a36d693771de14892bc4ad3542014f1455242980ff86f0b91f5a"), looks := false }, kinds := [], alts := [], laidByText := true, laidKinds := [.data, .data, .data], laidTests := true, laidLooks := .later }
def GroupAverageCardSaid : Prop := Claim7.holds Tryz.pinned (.plain (OpenSpec.ofChange groupAverageSpec)) groupAverageCard

/-- THE SECOND FORM's CARD OF 'sosoptlaw18.GroupAction'. -/
def groupActionUptoCard : Claim7 := { stood := { row := groupActionUptoRow, standIns := [], harness := (true, "764fe140ca42a36d693771de14892bc4ad3542014f1455242980ff86f0b91f5a"), looks := false }, kinds := [], alts := [], laidByText := true, laidKinds := [.data, .data, .data], laidTests := true, laidLooks := .later }
def GroupActionUptoCardSaid : Prop := Claim7.holds Tryz.pinned (.plain (OpenSpec.upto groupActionSpec)) groupActionUptoCard

/-- THE SECOND FORM's CARD OF 'sosoptlaw06.PolyContent'. -/
def polyContentUptoCard : Claim7 := { stood := { row := polyContentUptoRow, standIns := [], harness := (true, "764fe140ca42a36d693771de14892bc4ad3542014f1455242980ff86f0b91f5a"), looks := false }, kinds := [], alts := [], laidByText := true, laidKinds := [.data, .data, .data], laidTests := true, laidLooks := .later }
def PolyContentUptoCardSaid : Prop := Claim7.holds Tryz.pinned (.plain (OpenSpec.upto polyContentSpec)) polyContentUptoCard

/-- THE SECOND FORM's CARD OF 'sosoptlaw06.PolyValues'. -/
def polyValuesUptoCard : Claim7 := { stood := { row := polyValuesUptoRow, standIns := [], harness := (true, "764fe140ca42a36d693771de14892bc4ad3542014f1455242980ff86f0b91f5a"), looks := false }, kinds := [], alts := [], laidByText := true, laidKinds := [.data, .data, .data], laidTests := true, laidLooks := .later }
def PolyValuesUptoCardSaid : Prop := Claim7.holds Tryz.pinned (.plain (OpenSpec.upto polyValuesSpec)) polyValuesUptoCard

/-- THE SECOND FORM's CARD OF 'sosoptlaw18.GroupAverage'. -/
def groupAverageUptoCard : Claim7 := { stood := { row := groupAverageUptoRow, standIns := [], harness := (true, "764fe140ca42a36d693771de14892bc4ad3542014f1455242980ff86f0b91f5a"), looks := false }, kinds := [], alts := [], laidByText := true, laidKinds := [.data, .data, .data], laidTests := true, laidLooks := .later }
def GroupAverageUptoCardSaid : Prop := Claim7.holds Tryz.pinned (.plain (OpenSpec.upto groupAverageSpec)) groupAverageUptoCard
end Rows
end Go.Proofs.YtlpgonpfjbhmfaaGreatDoor
