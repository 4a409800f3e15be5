/-
  DERIVED. GIVEN WITH THE SEED: THE CARDS: each row of YtkofjhglgoojiaaGreatDoorRows.lean that lists a variable, with what it lists TIED to the program's text (the seventh form; the later family's looks); each row that meets fmt, with fmt's text TOLD by the authors' own Lean function (tested against real Go, not proved from fmt's source: count such statements apart). THE CARD IS WHAT COUNTS. Prove the row's statement (the work); the ties are given (YtkofjhglgoojiaaGreatDoorTie.lean); close each card by the builder's one call (the guide's Derived/Test/ToyasCard.lean, 'card_holds'). Laid BY PROGRAM, IN A SANDBOX (cutbox-door.mjs). By AI agents, Wed Nov 11 2026. No macro, syntax, notation, axiom, sorry.
-/
import Derived.Test.YtkofjhglgoojiaaGreatDoorRows
import GoSem.ClaimSeven
namespace Go.Proofs.YtkofjhglgoojiaaGreatDoor
namespace Rows

/-- THE TIED CARD OF 'platformfwlaw44.ControlPowerNewAgrees'. -/
def controlPowerNewAgreesCard : Claim7 := { stood := { row := controlPowerNewAgreesRow, standIns := [], harness := (true, "d89e6ef9ddde038ab58b62e8a5f3396aeb3db1999ec327c38aa28639faf6d11b"), looks := true }, kinds := [], alts := [], laidByText := true, laidKinds := [.data, .data, .data, .data, .sentinel, .sentinel, .pinned], laidTests := true, laidLooks := .later }
def ControlPowerNewAgreesCardSaid : Prop := Claim7.holds Tryz.pinned (.plain (OpenSpec.ofChange controlPowerNewAgreesSpec)) controlPowerNewAgreesCard

/-- THE SECOND FORM's CARD OF 'platformfwlaw44.ControlPowerNewAgrees'. -/
def controlPowerNewAgreesUptoCard : Claim7 := { stood := { row := controlPowerNewAgreesUptoRow, standIns := [], harness := (true, "d89e6ef9ddde038ab58b62e8a5f3396aeb3db1999ec327c38aa28639faf6d11b"), looks := true }, kinds := [], alts := [], laidByText := true, laidKinds := [.data, .data, .data, .data, .sentinel, .sentinel, .pinned], laidTests := true, laidLooks := .later }
def ControlPowerNewAgreesUptoCardSaid : Prop := Claim7.holds Tryz.pinned (.plain (OpenSpec.upto controlPowerNewAgreesSpec)) controlPowerNewAgreesUptoCard
end Rows
end Go.Proofs.YtkofjhglgoojiaaGreatDoor
