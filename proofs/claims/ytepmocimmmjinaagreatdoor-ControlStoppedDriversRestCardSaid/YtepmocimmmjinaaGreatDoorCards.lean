/-
  DERIVED. GIVEN WITH THE SEED: THE CARDS: each row of YtepmocimmmjinaaGreatDoorRows.lean that lists a variable, with what it lists TIED to the program's text (the seventh form; the later family's looks); each row that meets fmt, with fmt's text TOLD by the authors' own Lean function (tested against real Go, not proved from fmt's source: count such statements apart). THE CARD IS WHAT COUNTS. Prove the row's statement (the work); the ties are given (YtepmocimmmjinaaGreatDoorTie.lean); close each card by the builder's one call (the guide's Derived/Test/ToyasCard.lean, 'card_holds'). Laid BY PROGRAM, IN A SANDBOX (cutbox-door.mjs). By AI agents, Wed Nov 11 2026. No macro, syntax, notation, axiom, sorry.
-/
import Derived.Test.YtepmocimmmjinaaGreatDoorRows
import GoSem.ClaimSeven
namespace Go.Proofs.YtepmocimmmjinaaGreatDoor
namespace Rows

/-- THE TIED CARD OF 'platformfwlaw44.ControlStoppedDriversRest'. -/
def controlStoppedDriversRestCard : Claim7 := { stood := { row := controlStoppedDriversRestRow, standIns := [], harness := (true, "3fe98e91520350bad6090ca850dfac52f83098b7e631d5789a786d8ae22bb437"), looks := true }, kinds := [], alts := [], laidByText := true, laidKinds := [.data, .data, .data, .data, .sentinel, .sentinel, .pinned], laidTests := true, laidLooks := .later }
def ControlStoppedDriversRestCardSaid : Prop := Claim7.holds Tryz.pinned (.plain (OpenSpec.ofChange controlStoppedDriversRestSpec)) controlStoppedDriversRestCard

/-- THE SECOND FORM's CARD OF 'platformfwlaw44.ControlStoppedDriversRest'. -/
def controlStoppedDriversRestUptoCard : Claim7 := { stood := { row := controlStoppedDriversRestUptoRow, standIns := [], harness := (true, "3fe98e91520350bad6090ca850dfac52f83098b7e631d5789a786d8ae22bb437"), looks := true }, kinds := [], alts := [], laidByText := true, laidKinds := [.data, .data, .data, .data, .sentinel, .sentinel, .pinned], laidTests := true, laidLooks := .later }
def ControlStoppedDriversRestUptoCardSaid : Prop := Claim7.holds Tryz.pinned (.plain (OpenSpec.upto controlStoppedDriversRestSpec)) controlStoppedDriversRestUptoCard
end Rows
end Go.Proofs.YtepmocimmmjinaaGreatDoor
