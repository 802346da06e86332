/-
  DERIVED. GIVEN WITH THE SEED: THE CARDS: each row of YtbiifaciddajnaaGreatDoorRows.lean that lists a variable, with what it lists TIED to the program's text (the seventh form; the later family's looks); each row that meets fmt, with fmt's text TOLD by the authors' own Lean function (tested against real Go, not proved from fmt's source: count such statements apart). THE CARD IS WHAT COUNTS. Prove the row's statement (the work); the ties are given (YtbiifaciddajnaaGreatDoorTie.lean); close each card by the builder's one call (the guide's Derived/Test/ToyasCard.lean, 'card_holds'). Laid BY PROGRAM, IN A SANDBOX (cutbox-door.mjs). By AI agents, Wed Nov 11 2026. No macro, syntax, notation, axiom, sorry.
-/
import Derived.Test.YtbiifaciddajnaaGreatDoorRows
import GoSem.ClaimSeven
namespace Go.Proofs.YtbiifaciddajnaaGreatDoor
namespace Rows

/-- THE TIED CARD OF 'sosoptlaw06.PolyRing'. -/
def polyRingCard : Claim7 := { stood := { row := polyRingRow, standIns := [], harness := (true, "c896b7642a00449d4792f8a8a96e3f41eee4ba2906430e4f79570032b8a7e0cc"), looks := false }, kinds := [], alts := [], laidByText := true, laidKinds := [.data, .data, .data], laidTests := true, laidLooks := .later }
def PolyRingCardSaid : Prop := Claim7.holds Tryz.pinned (.plain (OpenSpec.ofChange polyRingSpec)) polyRingCard

/-- THE TIED CARD OF 'sosoptlaw06.PolyMake'. -/
def polyMakeCard : Claim7 := { stood := { row := polyMakeRow, standIns := [], harness := (true, "c896b7642a00449d4792f8a8a96e3f41eee4ba2906430e4f79570032b8a7e0cc"), looks := false }, kinds := [], alts := [], laidByText := true, laidKinds := [.data, .data, .data], laidTests := true, laidLooks := .later }
def PolyMakeCardSaid : Prop := Claim7.holds Tryz.pinned (.plain (OpenSpec.ofChange polyMakeSpec)) polyMakeCard

/-- THE TIED CARD OF 'sosoptlaw06.PolyMul'. -/
def polyMulCard : Claim7 := { stood := { row := polyMulRow, standIns := [], harness := (true, "c896b7642a00449d4792f8a8a96e3f41eee4ba2906430e4f79570032b8a7e0cc"), looks := false }, kinds := [], alts := [], laidByText := true, laidKinds := [.data, .data, .data], laidTests := true, laidLooks := .later }
def PolyMulCardSaid : Prop := Claim7.holds Tryz.pinned (.plain (OpenSpec.ofChange polyMulSpec)) polyMulCard

/-- THE TIED CARD OF 'sosoptlaw06.PolyValid'. -/
def polyValidCard : Claim7 := { stood := { row := polyValidRow, standIns := [], harness := (true, "c896b7642a00449d4792f8a8a96e3f41eee4ba2906430e4f79570032b8a7e0cc"), looks := false }, kinds := [], alts := [], laidByText := true, laidKinds := [.data, .data, .data], laidTests := true, laidLooks := .later }
def PolyValidCardSaid : Prop := Claim7.holds Tryz.pinned (.plain (OpenSpec.ofChange polyValidSpec)) polyValidCard

/-- THE TIED CARD OF 'sosoptlaw06.PolyPow'. -/
def polyPowCard : Claim7 := { stood := { row := polyPowRow, standIns := [], harness := (true, "c896b7642a00449d4792f8a8a96e3f41eee4ba2906430e4f79570032b8a7e0cc"), looks := false }, kinds := [], alts := [], laidByText := true, laidKinds := [.data, .data, .data], laidTests := true, laidLooks := .later }
def PolyPowCardSaid : Prop := Claim7.holds Tryz.pinned (.plain (OpenSpec.ofChange polyPowSpec)) polyPowCard

/-- THE TIED CARD OF 'sosoptlaw06.PolyDerivative'. -/
def polyDerivativeCard : Claim7 := { stood := { row := polyDerivativeRow, standIns := [], harness := (true, "c896b7642a00449d4792f8a8a96e3f41eee4ba2906430e4f79570032b8a7e0cc"), looks := false }, kinds := [], alts := [], laidByText := true, laidKinds := [.data, .data, .data], laidTests := true, laidLooks := .later }
def PolyDerivativeCardSaid : Prop := Claim7.holds Tryz.pinned (.plain (OpenSpec.ofChange polyDerivativeSpec)) polyDerivativeCard

/-- THE TIED CARD OF 'sosoptlaw06.PolyLinear'. -/
def polyLinearCard : Claim7 := { stood := { row := polyLinearRow, standIns := [], harness := (true, "c896b7642a00449d4792f8a8a96e3f41eee4ba2906430e4f79570032b8a7e0cc"), looks := false }, kinds := [], alts := [], laidByText := true, laidKinds := [.data, .data, .data], laidTests := true, laidLooks := .later }
def PolyLinearCardSaid : Prop := Claim7.holds Tryz.pinned (.plain (OpenSpec.ofChange polyLinearSpec)) polyLinearCard

/-- THE TIED CARD OF 'sosoptlaw06.PolyOwn'. -/
def polyOwnCard : Claim7 := { stood := { row := polyOwnRow, standIns := [], harness := (true, "c896b7642a00449d4792f8a8a96e3f41eee4ba2906430e4f79570032b8a7e0cc"), looks := false }, kinds := [], alts := [], laidByText := true, laidKinds := [.data, .data, .data], laidTests := true, laidLooks := .later }
def PolyOwnCardSaid : Prop := Claim7.holds Tryz.pinned (.plain (OpenSpec.ofChange polyOwnSpec)) polyOwnCard

/-- THE TIED CARD OF 'sosoptlaw06.PolyEval'. -/
def polyEvalCard : Claim7 := { stood := { row := polyEvalRow, standIns := [], harness := (true, "c896b7642a00449d4792f8a8a96e3f41eee4ba2906430e4f79570032b8a7e0cc"), looks := false }, kinds := [], alts := [], laidByText := true, laidKinds := [.data, .data, .data], laidTests := true, laidLooks := .later }
def PolyEvalCardSaid : Prop := Claim7.holds Tryz.pinned (.plain (OpenSpec.ofChange polyEvalSpec)) polyEvalCard

/-- THE TIED CARD OF 'sosoptlaw06.PolyCompose'. -/
def polyComposeCard : Claim7 := { stood := { row := polyComposeRow, standIns := [], harness := (true, "c896b7642a00449d4792f8a8a96e3f41eee4ba2906430e4f79570032b8a7e0cc"), looks := false }, kinds := [], alts := [], laidByText := true, laidKinds := [.data, .data, .data], laidTests := true, laidLooks := .later }
def PolyComposeCardSaid : Prop := Claim7.holds Tryz.pinned (.plain (OpenSpec.ofChange polyComposeSpec)) polyComposeCard

/-- THE TIED CARD OF 'sosoptlaw06.PolyContent'. -/
def polyContentCard : Claim7 := { stood := { row := polyContentRow, standIns := [], harness := (true, "c896b7642a00449d4792f8a8a96e3f41eee4ba2906430e4f79570032b8a7e0cc"), looks := false }, kinds := [], alts := [], laidByText := true, laidKinds := [.data, .data, .data], laidTests := true, laidLooks := .later }
def PolyContentCardSaid : Prop := Claim7.holds Tryz.pinned (.plain (OpenSpec.ofChange polyContentSpec)) polyContentCard

/-- THE TIED CARD OF 'sosoptlaw06.PolyValues'. -/
def polyValuesCard : Claim7 := { stood := { row := polyValuesRow, standIns := [], harness := (true, "c896b7642a00449d4792f8a8a96e3f41eee4ba2906430e4f79570032b8a7e0cc"), looks := false }, kinds := [], alts := [], laidByText := true, laidKinds := [.data, .data, .data], laidTests := true, laidLooks := .later }
def PolyValuesCardSaid : Prop := Claim7.holds Tryz.pinned (.plain (OpenSpec.ofChange polyValuesSpec)) polyValuesCard

/-- THE SECOND FORM's CARD OF 'sosoptlaw06.PolyRing'. -/
def polyRingUptoCard : Claim7 := { stood := { row := polyRingUptoRow, standIns := [], harness := (true, "c896b7642a00449d4792f8a8a96e3f41eee4ba2906430e4f79570032b8a7e0cc"), looks := false }, kinds := [], alts := [], laidByText := true, laidKinds := [.data, .data, .data], laidTests := true, laidLooks := .later }
def PolyRingUptoCardSaid : Prop := Claim7.holds Tryz.pinned (.plain (OpenSpec.upto polyRingSpec)) polyRingUptoCard

/-- THE SECOND FORM's CARD OF 'sosoptlaw06.PolyMake'. -/
def polyMakeUptoCard : Claim7 := { stood := { row := polyMakeUptoRow, standIns := [], harness := (true, "c896b7642a00449d4792f8a8a96e3f41eee4ba2906430e4f79570032b8a7e0cc"), looks := false }, kinds := [], alts := [], laidByText := true, laidKinds := [.data, .data, .data], laidTests := true, laidLooks := .later }
def PolyMakeUptoCardSaid : Prop := Claim7.holds Tryz.pinned (.plain (OpenSpec.upto polyMakeSpec)) polyMakeUptoCard

/-- THE SECOND FORM's CARD OF 'sosoptlaw06.PolyMul'. -/
def polyMulUptoCard : Claim7 := { stood := { row := polyMulUptoRow, standIns := [], harness := (true, "c896b7642a00449d4792f8a8a96e3f41eee4ba2906430e4f79570032b8a7e0cc"), looks := false }, kinds := [], alts := [], laidByText := true, laidKinds := [.data, .data, .data], laidTests := true, laidLooks := .later }
def PolyMulUptoCardSaid : Prop := Claim7.holds Tryz.pinned (.plain (OpenSpec.upto polyMulSpec)) polyMulUptoCard

/-- THE SECOND FORM's CARD OF 'sosoptlaw06.PolyValid'. -/
def polyValidUptoCard : Claim7 := { stood := { row := polyValidUptoRow, standIns := [], harness := (true, "c896b7642a00449d4792f8a8a96e3f41eee4ba2906430e4f79570032b8a7e0cc"), looks := false }, kinds := [], alts := [], laidByText := true, laidKinds := [.data, .data, .data], laidTests := true, laidLooks := .later }
def PolyValidUptoCardSaid : Prop := Claim7.holds Tryz.pinned (.plain (OpenSpec.upto polyValidSpec)) polyValidUptoCard

/-- THE SECOND FORM's CARD OF 'sosoptlaw06.PolyPow'. -/
def polyPowUptoCard : Claim7 := { stood := { row := polyPowUptoRow, standIns := [], harness := (true, "c896b7642a00449d4792f8a8a96e3f41eee4ba2906430e4f79570032b8a7e0cc"), looks := false }, kinds := [], alts := [], laidByText := true, laidKinds := [.data, .data, .data], laidTests := true, laidLooks := .later }
def PolyPowUptoCardSaid : Prop := Claim7.holds Tryz.pinned (.plain (OpenSpec.upto polyPowSpec)) polyPowUptoCard

/-- THE SECOND FORM's CARD OF 'sosoptlaw06.PolyDerivative'. -/
def polyDerivativeUptoCard : Claim7 := { stood := { row := polyDerivativeUptoRow, standIns := [], harness := (true, "c896b7642a00449d4792f8a8a96e3f41eee4ba2906430e4f79570032b8a7e0cc"), looks := false }, kinds := [], alts := [], laidByText := true, laidKinds := [.data, .data, .data], laidTests := true, laidLooks := .later }
def PolyDerivativeUptoCardSaid : Prop := Claim7.holds Tryz.pinned (.plain (OpenSpec.upto polyDerivativeSpec)) polyDerivativeUptoCard

/-- THE SECOND FORM's CARD OF 'sosoptlaw06.PolyLinear'. -/
def polyLinearUptoCard : Claim7 := { stood := { row := polyLinearUptoRow, standIns := [], harness := (true, "c896b7642a00449d4792f8a8a96e3f41eee4ba2906430e4f79570032b8a7e0cc"), looks := false }, kinds := [], alts := [], laidByText := true, laidKinds := [.data, .data, .data], laidTests := true, laidLooks := .later }
def PolyLinearUptoCardSaid : Prop := Claim7.holds Tryz.pinned (.plain (OpenSpec.upto polyLinearSpec)) polyLinearUptoCard

/-- THE SECOND FORM's CARD OF 'sosoptlaw06.PolyOwn'. -/
def polyOwnUptoCard : Claim7 := { stood := { row := polyOwnUptoRow, standIns := [], harness := (true, "c896b7642a00449d4792f8a8a96e3f41eee4ba2906430e4f79570032b8a7e0cc"), looks := false }, kinds := [], alts := [], laidByText := true, laidKinds := [.data, .data, .data], laidTests := true, laidLooks := .later }
def PolyOwnUptoCardSaid : Prop := Claim7.holds Tryz.pinned (.plain (OpenSpec.upto polyOwnSpec)) polyOwnUptoCard

/-- THE SECOND FORM's CARD OF 'sosoptlaw06.PolyEval'. -/
def polyEvalUptoCard : Claim7 := { stood := { row := polyEvalUptoRow, standIns := [], harness := (true, "c896b7642a00449d4792f8a8a96e3f41eee4ba2906430e4f79570032b8a7e0cc"), looks := false }, kinds := [], alts := [], laidByText := true, laidKinds := [.data, .data, .data], laidTests := true, laidLooks := .later }
def PolyEvalUptoCardSaid : Prop := Claim7.holds Tryz.pinned (.plain (OpenSpec.upto polyEvalSpec)) polyEvalUptoCard

/-- THE SECOND FORM's CARD OF 'sosoptlaw06.PolyCompose'. -/
def polyComposeUptoCard : Claim7 := { stood := { row := polyComposeUptoRow, standIns := [], harness := (true, "c896b7642a00449d4792f8a8a96e3f41eee4ba2906430e4f79570032b8a7e0cc"), looks := false }, kinds := [], alts := [], laidByText := true, laidKinds := [.data, .data, .data], laidTests := true, laidLooks := .later }
def PolyComposeUptoCardSaid : Prop := Claim7.holds Tryz.pinned (.plain (OpenSpec.upto polyComposeSpec)) polyComposeUptoCard

/-- THE SECOND FORM's CARD OF 'sosoptlaw06.PolyContent'. -/
def polyContentUptoCard : Claim7 := { stood := { row := polyContentUptoRow, standIns := [], harness := (true, "c896b7642a00449d4792f8a8a96e3f41eee4ba2906430e4f79570032b8a7e0cc"), looks := false }, kinds := [], alts := [], laidByText := true, laidKinds := [.data, .data, .data], laidTests := true, laidLooks := .later }
def PolyContentUptoCardSaid : Prop := Claim7.holds Tryz.pinned (.plain (OpenSpec.upto polyContentSpec)) polyContentUptoCard

/-- THE SECOND FORM's CARD OF 'sosoptlaw06.PolyValues'. -/
def polyValuesUptoCard : Claim7 := { stood := { row := polyValuesUptoRow, standIns := [], harness := (true, "c896b7642a00449d4792f8a8a96e3f41eee4ba2906430e4f79570032b8a7e0cc"), looks := false }, kinds := [], alts := [], laidByText := true, laidKinds := [.data, .data, .data], laidTests := true, laidLooks := .later }
def PolyValuesUptoCardSaid : Prop := Claim7.holds Tryz.pinned (.plain (OpenSpec.upto polyValuesSpec)) polyValuesUptoCard
end Rows
end Go.Proofs.YtbiifaciddajnaaGreatDoor
