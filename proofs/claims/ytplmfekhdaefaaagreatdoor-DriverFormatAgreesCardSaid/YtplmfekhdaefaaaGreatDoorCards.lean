/-
  DERIVED. GIVEN WITH THE SEED: THE CARDS: each row of YtplmfekhdaefaaaGreatDoorRows.lean that lists a variable, with what it lists TIED to the program's text (the seventh form; the later family's looks); each row that meets fmt, with fmt's text TOLD by the authors' own Lean function (tested against real Go, not proved from fmt's source: count such statements apart). THE CARD IS WHAT COUNTS. Prove the row's statement (the work); the ties are given (YtplmfekhdaefaaaGreatDoorTie.lean); close each card by the builder's one call (the guide's Derived/Test/ToyasCard.lean, 'card_holds'). Laid BY PROGRAM, IN A SANDBOX (cutbox-door.mjs). By AI agents, Wed Nov 11 2026. No macro, syntax, notation, axiom, sorry.
-/
import Derived.Test.YtplmfekhdaefaaaGreatDoorRows
import GoSem.ClaimSeven
namespace Go.Proofs.YtplmfekhdaefaaaGreatDoor
namespace Rows

/-- THE TIED CARD OF 'platformfwlaw26.DriverParseMutated'. -/
def driverParseMutatedCard : Claim7 := { stood := { row := driverParseMutatedRow, standIns := [], harness := (true, "93b08c432e1bd56669285c2c3bf2bc99c7ee168b151113475029803dff635533"), looks := true }, kinds := [], alts := [], laidByText := true, laidKinds := [.data, .data, .data, .data, .sentinel, .sentinel, .pinned], laidTests := true, laidLooks := .later }
def DriverParseMutatedCardSaid : Prop := Claim7.holds Tryz.pinned (.plain (OpenSpec.ofChange driverParseMutatedSpec)) driverParseMutatedCard

/-- THE TIED CARD OF 'platformfwlaw26.DriverFormatAgrees'. -/
def driverFormatAgreesCard : Claim7 := { stood := { row := driverFormatAgreesRow, standIns := [], harness := (true, "93b08c432e1bd56669285c2c3bf2bc99c7ee168b151113475029803dff635533"), looks := true }, kinds := [], alts := [], laidByText := true, laidKinds := [.data, .data, .data, .data, .sentinel, .sentinel, .pinned], laidTests := true, laidLooks := .later }
def DriverFormatAgreesCardSaid : Prop := Claim7.holds Tryz.pinned (.plain (OpenSpec.ofChange driverFormatAgreesSpec)) driverFormatAgreesCard

/-- THE TIED CARD OF 'platformfwlaw26.DriverRoundTrip'. -/
def driverRoundTripCard : Claim7 := { stood := { row := driverRoundTripRow, standIns := [], harness := (true, "93b08c432e1bd56669285c2c3bf2bc99c7ee168b151113475029803dff635533"), looks := true }, kinds := [], alts := [], laidByText := true, laidKinds := [.data, .data, .data, .data, .sentinel, .sentinel, .pinned], laidTests := true, laidLooks := .later }
def DriverRoundTripCardSaid : Prop := Claim7.holds Tryz.pinned (.plain (OpenSpec.ofChange driverRoundTripSpec)) driverRoundTripCard

/-- THE TIED CARD OF 'platformfwlaw26.DriverLayout'. -/
def driverLayoutCard : Claim7 := { stood := { row := driverLayoutRow, standIns := [], harness := (true, "93b08c432e1bd56669285c2c3bf2bc99c7ee168b151113475029803dff635533"), looks := true }, kinds := [], alts := [], laidByText := true, laidKinds := [.data, .data, .data, .data, .sentinel, .sentinel, .pinned], laidTests := true, laidLooks := .later }
def DriverLayoutCardSaid : Prop := Claim7.holds Tryz.pinned (.plain (OpenSpec.ofChange driverLayoutSpec)) driverLayoutCard

/-- THE SECOND FORM's CARD OF 'platformfwlaw26.DriverParseMutated'. -/
def driverParseMutatedUptoCard : Claim7 := { stood := { row := driverParseMutatedUptoRow, standIns := [], harness := (true, "93b08c432e1bd56669285c2c3bf2bc99c7ee168b151113475029803dff635533"), looks := true }, kinds := [], alts := [], laidByText := true, laidKinds := [.data, .data, .data, .data, .sentinel, .sentinel, .pinned], laidTests := true, laidLooks := .later }
def DriverParseMutatedUptoCardSaid : Prop := Claim7.holds Tryz.pinned (.plain (OpenSpec.upto driverParseMutatedSpec)) driverParseMutatedUptoCard

/-- THE SECOND FORM's CARD OF 'platformfwlaw26.DriverFormatAgrees'. -/
def driverFormatAgreesUptoCard : Claim7 := { stood := { row := driverFormatAgreesUptoRow, standIns := [], harness := (true, "93b08c432e1bd56669285c2c3bf2bc99c7ee168b151113475029803dff635533"), looks := true }, kinds := [], alts := [], laidByText := true, laidKinds := [.data, .data, .data, .data, .sentinel, .sentinel, .pinned], laidTests := true, laidLooks := .later }
def DriverFormatAgreesUptoCardSaid : Prop := Claim7.holds Tryz.pinned (.plain (OpenSpec.upto driverFormatAgreesSpec)) driverFormatAgreesUptoCard

/-- THE SECOND FORM's CARD OF 'platformfwlaw26.DriverRoundTrip'. -/
def driverRoundTripUptoCard : Claim7 := { stood := { row := driverRoundTripUptoRow, standIns := [], harness := (true, "93b08c432e1bd56669285c2c3bf2bc99c7ee168b151113475029803dff635533"), looks := true }, kinds := [], alts := [], laidByText := true, laidKinds := [.data, .data, .data, .data, .sentinel, .sentinel, .pinned], laidTests := true, laidLooks := .later }
def DriverRoundTripUptoCardSaid : Prop := Claim7.holds Tryz.pinned (.plain (OpenSpec.upto driverRoundTripSpec)) driverRoundTripUptoCard

/-- THE SECOND FORM's CARD OF 'platformfwlaw26.DriverLayout'. -/
def driverLayoutUptoCard : Claim7 := { stood := { row := driverLayoutUptoRow, standIns := [], harness := (true, "93b08c432e1bd56669285c2c3bf2bc99c7ee168b151113475029803dff635533"), looks := true }, kinds := [], alts := [], laidByText := true, laidKinds := [.data, .data, .data, .data, .sentinel, .sentinel, .pinned], laidTests := true, laidLooks := .later }
def DriverLayoutUptoCardSaid : Prop := Claim7.holds Tryz.pinned (.plain (OpenSpec.upto driverLayoutSpec)) driverLayoutUptoCard
end Rows
end Go.Proofs.YtplmfekhdaefaaaGreatDoor
