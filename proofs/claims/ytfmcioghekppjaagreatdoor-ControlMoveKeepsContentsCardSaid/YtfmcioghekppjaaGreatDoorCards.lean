/-
  DERIVED. GIVEN WITH THE SEED: THE CARDS: each row of YtfmcioghekppjaaGreatDoorRows.lean that lists a variable, with what it lists TIED to the program's text (the seventh form; the later family's looks); each row that meets fmt, with fmt's text TOLD by the authors' own Lean function (tested against real Go, not proved from fmt's source: count such statements apart). THE CARD IS WHAT COUNTS. Prove the row's statement (the work); the ties are given (YtfmcioghekppjaaGreatDoorTie.lean); close each card by the builder's one call (the guide's Derived/Test/ToyasCard.lean, 'card_holds'). Laid BY PROGRAM, IN A SANDBOX (cutbox-door.mjs). By AI agents, Wed Nov 11 2026. No macro, syntax, notation, axiom, sorry.
-/
import Derived.Test.YtfmcioghekppjaaGreatDoorRows
import GoSem.ClaimSeven
namespace Go.Proofs.YtfmcioghekppjaaGreatDoor
namespace Rows

/-- THE TIED CARD OF 'platformfwlaw44.ControlMoveKeepsContents'. -/
def controlMoveKeepsContentsCard : Claim7 := { stood := { row := controlMoveKeepsContentsRow, standIns := [], harness := (true, "d5c2424d9bb393ac5cac434cac3cd2818b0c691679ff0798cef449d44af5574d"), looks := true }, kinds := [], alts := [], laidByText := true, laidKinds := [.data, .data, .data, .data, .sentinel, .sentinel, .pinned], laidTests := true, laidLooks := .later }
def ControlMoveKeepsContentsCardSaid : Prop := Claim7.holds Tryz.pinned (.plain (OpenSpec.ofChange controlMoveKeepsContentsSpec)) controlMoveKeepsContentsCard

/-- THE SECOND FORM's CARD OF 'platformfwlaw44.ControlMoveKeepsContents'. -/
def controlMoveKeepsContentsUptoCard : Claim7 := { stood := { row := controlMoveKeepsContentsUptoRow, standIns := [], harness := (true, "d5c2424d9bb393ac5cac434cac3cd2818b0c691679ff0798cef449d44af5574d"), looks := true }, kinds := [], alts := [], laidByText := true, laidKinds := [.data, .data, .data, .data, .sentinel, .sentinel, .pinned], laidTests := true, laidLooks := .later }
def ControlMoveKeepsContentsUptoCardSaid : Prop := Claim7.holds Tryz.pinned (.plain (OpenSpec.upto controlMoveKeepsContentsSpec)) controlMoveKeepsContentsUptoCard
end Rows
end Go.Proofs.YtfmcioghekppjaaGreatDoor
