/-
  DERIVED. GIVEN WITH THE SEED: THE CARDS: each row of YtidknnkgdniopaaGreatDoorRows.lean that lists a variable, with what it lists TIED to the program's text (the seventh form; the later family's looks); each row that meets fmt, with fmt's text TOLD by the authors' own Lean function (tested against real Go, not proved from fmt's source: count such statements apart). THE CARD IS WHAT COUNTS. Prove the row's statement (the work); the ties are given (YtidknnkgdniopaaGreatDoorTie.lean); close each card by the builder's one call (the guide's Derived/Test/ToyasCard.lean, 'card_holds'). Laid BY PROGRAM, IN A SANDBOX (cutbox-door.mjs). By AI agents, Wed Nov 11 2026. No macro, syntax, notation, axiom, sorry.
-/
import Derived.Test.YtidknnkgdniopaaGreatDoorRows
import GoSem.ClaimSeven
namespace Go.Proofs.YtidknnkgdniopaaGreatDoor
namespace Rows

/-- THE TIED CARD OF 'sosoptlaw06.PolyCompose'. -/
def polyComposeCard : Claim7 := { stood := { row := polyComposeRow, standIns := [], harness := (true, "728ce2c3def28de23ebd0b9d4dd2bd8125a29f30830fe78f649e4f8b3c8bd0e9"), looks := false }, kinds := [], alts := [], laidByText := true, laidKinds := [.data, .data, .data], laidTests := true, laidLooks := .later }
def PolyComposeCardSaid : Prop := Claim7.holds Tryz.pinned (.plain (OpenSpec.ofChange polyComposeSpec)) polyComposeCard

/-- THE TIED CARD OF 'sosoptlaw06.PolyValues'. -/
def polyValuesCard : Claim7 := { stood := { row := polyValuesRow, standIns := [], harness := (true, "728ce2c3def28de23ebd0b9d4dd2bd8125a29f30830fe78f649e4f8b3c8bd0e9"), looks := false }, kinds := [], alts := [], laidByText := true, laidKinds := [.data, .data, .data], laidTests := true, laidLooks := .later }
def PolyValuesCardSaid : Prop := Claim7.holds Tryz.pinned (.plain (OpenSpec.ofChange polyValuesSpec)) polyValuesCard

/-- THE SECOND FORM's CARD OF 'sosoptlaw06.PolyCompose'. -/
def polyComposeUptoCard : Claim7 := { stood := { row := polyComposeUptoRow, standIns := [], harness := (true, "728ce2c3def28de23ebd0b9d4dd2bd8125a29f30830fe78f649e4f8b3c8bd0e9"), looks := false }, kinds := [], alts := [], laidByText := true, laidKinds := [.data, .data, .data], laidTests := true, laidLooks := .later }
def PolyComposeUptoCardSaid : Prop := Claim7.holds Tryz.pinned (.plain (OpenSpec.upto polyComposeSpec)) polyComposeUptoCard

/-- THE SECOND FORM's CARD OF 'sosoptlaw06.PolyValues'. -/
def polyValuesUptoCard : Claim7 := { stood := { row := polyValuesUptoRow, standIns := [], harness := (true, "728ce2c3def28de23ebd0b9d4dd2bd8125a29f30830fe78f649e4f8b3c8bd0e9"), looks := false }, kinds := [], alts := [], laidByText := true, laidKinds := [.data, .data, .data], laidTests := true, laidLooks := .later }
def PolyValuesUptoCardSaid : Prop := Claim7.holds Tryz.pinned (.plain (OpenSpec.upto polyValuesSpec)) polyValuesUptoCard
end Rows
end Go.Proofs.YtidknnkgdniopaaGreatDoor
