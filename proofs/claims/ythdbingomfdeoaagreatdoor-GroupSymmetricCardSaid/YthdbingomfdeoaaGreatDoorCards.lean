/-
  DERIVED. GIVEN WITH THE SEED: THE CARDS: each row of YthdbingomfdeoaaGreatDoorRows.lean that lists a variable, with what it lists TIED to the program's text (the seventh form; the later family's looks); each row that meets fmt, with fmt's text TOLD by the authors' own Lean function (tested against real Go, not proved from fmt's source: count such statements apart). THE CARD IS WHAT COUNTS. Prove the row's statement (the work); the ties are given (YthdbingomfdeoaaGreatDoorTie.lean); close each card by the builder's one call (the guide's Derived/Test/ToyasCard.lean, 'card_holds'). Laid BY PROGRAM, IN A SANDBOX (cutbox-door.mjs). By AI agents, Wed Nov 11 2026. No macro, syntax, notation, axiom, sorry.
-/
import Derived.Test.YthdbingomfdeoaaGreatDoorRows
import GoSem.ClaimSeven
namespace Go.Proofs.YthdbingomfdeoaaGreatDoor
namespace Rows

/-- THE TIED CARD OF 'sosoptlaw18.GroupAutomorphisms'. -/
def groupAutomorphismsCard : Claim7 := { stood := { row := groupAutomorphismsRow, standIns := [], harness := (true, "838a2da4fbabf15bef4a0393a04e83c9c4e3a8569499dc929fa1f8f422cb951f"), looks := false }, kinds := [], alts := [], laidByText := true, laidKinds := [.data], laidTests := true, laidLooks := .later }
def GroupAutomorphismsCardSaid : Prop := Claim7.holds Tryz.pinned (.plain (OpenSpec.ofChange groupAutomorphismsSpec)) groupAutomorphismsCard

/-- THE TIED CARD OF 'sosoptlaw18.GroupSymmetric'. -/
def groupSymmetricCard : Claim7 := { stood := { row := groupSymmetricRow, standIns := [], harness := (true, "838a2da4fbabf15bef4a0393a04e83c9c4e3a8569499dc929fa1f8f422cb951f"), looks := false }, kinds := [], alts := [], laidByText := true, laidKinds := [.data, .data, .data], laidTests := true, laidLooks := .later }
def GroupSymmetricCardSaid : Prop := Claim7.holds Tryz.pinned (.plain (OpenSpec.ofChange groupSymmetricSpec)) groupSymmetricCard

/-- THE SECOND FORM's CARD OF 'sosoptlaw18.GroupAutomorphisms'. -/
def groupAutomorphismsUptoCard : Claim7 := { stood := { row := groupAutomorphismsUptoRow, standIns := [], harness := (true, "838a2da4fbabf15bef4a0393a04e83c9c4e3a8569499dc929fa1f8f422cb951f"), looks := false }, kinds := [], alts := [], laidByText := true, laidKinds := [.data], laidTests := true, laidLooks := .later }
def GroupAutomorphismsUptoCardSaid : Prop := Claim7.holds Tryz.pinned (.plain (OpenSpec.upto groupAutomorphismsSpec)) groupAutomorphismsUptoCard

/-- THE SECOND FORM's CARD OF 'sosoptlaw18.GroupSymmetric'. -/
def groupSymmetricUptoCard : Claim7 := { stood := { row := groupSymmetricUptoRow, standIns := [], harness := (true, "838a2da4fbabf15bef4a0393a04e83c9c4e3a8569499dc929fa1f8f422cb951f"), looks := false }, kinds := [], alts := [], laidByText := true, laidKinds := [.data, .data, .data], laidTests := true, laidLooks := .later }
def GroupSymmetricUptoCardSaid : Prop := Claim7.holds Tryz.pinned (.plain (OpenSpec.upto groupSymmetricSpec)) groupSymmetricUptoCard
end Rows
end Go.Proofs.YthdbingomfdeoaaGreatDoor
