/-
  DERIVED. GIVEN WITH THE SEED: THE CARDS: each row of YtplmfekhdaefaaaDoorRows.lean that lists a variable, with what it lists TIED to the program's text (the seventh form; the later family's looks); each row that meets fmt, with fmt's text TOLD by the authors' own Lean function (tested against real Go, not proved from fmt's source: count such statements apart). THE CARD IS WHAT COUNTS. Prove the row's statement (the work); the ties are given (YtplmfekhdaefaaaDoorTie.lean); close each card by the builder's one call (the guide's Derived/Test/ToyasCard.lean, 'card_holds'). Laid BY PROGRAM, IN A SANDBOX (cutbox-door.mjs). By AI agents, Wed Nov 11 2026. No macro, syntax, notation, axiom, sorry.
-/
import Derived.Test.YtplmfekhdaefaaaDoorRows
import GoSem.ClaimSeven
namespace Go.Proofs.YtplmfekhdaefaaaDoor
namespace Rows

/-- THE TIED CARD OF 'platformfwlaw26.DriverParseAgrees'. -/
def driverParseAgreesCard : Claim7 := { stood := { row := driverParseAgreesRow, standIns := [], harness := (true, "073bc230fb55c5570896d2816bf93f165db5a6122517ae7d73875354b2b2d097"), looks := true }, kinds := [], alts := [], laidByText := true, laidKinds := [.data, .data, .data, .data, .sentinel, .sentinel, .pinned], laidTests := true, laidLooks := .later }
def DriverParseAgreesCardSaid : Prop := Claim7.holds Tryd.pinned (.plain (OpenSpec.ofChange driverParseAgreesSpec)) driverParseAgreesCard

/-- THE TIED CARD OF 'platformfwlaw26.DriverParsePieces'. -/
def driverParsePiecesCard : Claim7 := { stood := { row := driverParsePiecesRow, standIns := [], harness := (true, "073bc230fb55c5570896d2816bf93f165db5a6122517ae7d73875354b2b2d097"), looks := true }, kinds := [], alts := [], laidByText := true, laidKinds := [.data, .data, .data, .data, .sentinel, .sentinel, .pinned], laidTests := true, laidLooks := .later }
def DriverParsePiecesCardSaid : Prop := Claim7.holds Tryd.pinned (.plain (OpenSpec.ofChange driverParsePiecesSpec)) driverParsePiecesCard

/-- THE TIED CARD OF 'platformfwlaw26.DriverRunAgrees'. -/
def driverRunAgreesCard : Claim7 := { stood := { row := driverRunAgreesRow, standIns := [], harness := (true, "073bc230fb55c5570896d2816bf93f165db5a6122517ae7d73875354b2b2d097"), looks := true }, kinds := [], alts := [], laidByText := true, laidKinds := [.data, .data, .data, .data, .sentinel, .sentinel, .pinned], laidTests := true, laidLooks := .later }
def DriverRunAgreesCardSaid : Prop := Claim7.holds Tryd.pinned (.plain (OpenSpec.ofChange driverRunAgreesSpec)) driverRunAgreesCard

/-- THE TIED CARD OF 'platformfwlaw26.DriverIgnoresOtherEvents'. -/
def driverIgnoresOtherEventsCard : Claim7 := { stood := { row := driverIgnoresOtherEventsRow, standIns := [], harness := (true, "073bc230fb55c5570896d2816bf93f165db5a6122517ae7d73875354b2b2d097"), looks := true }, kinds := [], alts := [], laidByText := true, laidKinds := [.data, .data, .data, .data, .sentinel, .sentinel, .pinned], laidTests := true, laidLooks := .later }
def DriverIgnoresOtherEventsCardSaid : Prop := Claim7.holds Tryd.pinned (.plain (OpenSpec.ofChange driverIgnoresOtherEventsSpec)) driverIgnoresOtherEventsCard

/-- THE TIED CARD OF 'platformfwlaw26.DriverCheckAgrees'. -/
def driverCheckAgreesCard : Claim7 := { stood := { row := driverCheckAgreesRow, standIns := [], harness := (true, "073bc230fb55c5570896d2816bf93f165db5a6122517ae7d73875354b2b2d097"), looks := true }, kinds := [], alts := [], laidByText := true, laidKinds := [.data, .data, .data, .data, .sentinel, .sentinel, .pinned], laidTests := true, laidLooks := .later }
def DriverCheckAgreesCardSaid : Prop := Claim7.holds Tryd.pinned (.plain (OpenSpec.ofChange driverCheckAgreesSpec)) driverCheckAgreesCard

/-- THE TIED CARD OF 'platformfwlaw26.DriverStaysReachable'. -/
def driverStaysReachableCard : Claim7 := { stood := { row := driverStaysReachableRow, standIns := [], harness := (true, "073bc230fb55c5570896d2816bf93f165db5a6122517ae7d73875354b2b2d097"), looks := true }, kinds := [], alts := [], laidByText := true, laidKinds := [.data, .data, .data, .data, .sentinel, .sentinel, .pinned], laidTests := true, laidLooks := .later }
def DriverStaysReachableCardSaid : Prop := Claim7.holds Tryd.pinned (.plain (OpenSpec.ofChange driverStaysReachableSpec)) driverStaysReachableCard

/-- THE TIED CARD OF 'platformfwlaw26.DriverUnreachableTransitions'. -/
def driverUnreachableTransitionsCard : Claim7 := { stood := { row := driverUnreachableTransitionsRow, standIns := [], harness := (true, "073bc230fb55c5570896d2816bf93f165db5a6122517ae7d73875354b2b2d097"), looks := true }, kinds := [], alts := [], laidByText := true, laidKinds := [.data, .data, .data, .data, .sentinel, .sentinel, .pinned], laidTests := true, laidLooks := .later }
def DriverUnreachableTransitionsCardSaid : Prop := Claim7.holds Tryd.pinned (.plain (OpenSpec.ofChange driverUnreachableTransitionsSpec)) driverUnreachableTransitionsCard

/-- THE SECOND FORM's CARD OF 'platformfwlaw26.DriverParseAgrees'. -/
def driverParseAgreesUptoCard : Claim7 := { stood := { row := driverParseAgreesUptoRow, standIns := [], harness := (true, "073bc230fb55c5570896d2816bf93f165db5a6122517ae7d73875354b2b2d097"), looks := true }, kinds := [], alts := [], laidByText := true, laidKinds := [.data, .data, .data, .data, .sentinel, .sentinel, .pinned], laidTests := true, laidLooks := .later }
def DriverParseAgreesUptoCardSaid : Prop := Claim7.holds Tryd.pinned (.plain (OpenSpec.upto driverParseAgreesSpec)) driverParseAgreesUptoCard

/-- THE SECOND FORM's CARD OF 'platformfwlaw26.DriverParsePieces'. -/
def driverParsePiecesUptoCard : Claim7 := { stood := { row := driverParsePiecesUptoRow, standIns := [], harness := (true, "073bc230fb55c5570896d2816bf93f165db5a6122517ae7d73875354b2b2d097"), looks := true }, kinds := [], alts := [], laidByText := true, laidKinds := [.data, .data, .data, .data, .sentinel, .sentinel, .pinned], laidTests := true, laidLooks := .later }
def DriverParsePiecesUptoCardSaid : Prop := Claim7.holds Tryd.pinned (.plain (OpenSpec.upto driverParsePiecesSpec)) driverParsePiecesUptoCard

/-- THE SECOND FORM's CARD OF 'platformfwlaw26.DriverRunAgrees'. -/
def driverRunAgreesUptoCard : Claim7 := { stood := { row := driverRunAgreesUptoRow, standIns := [], harness := (true, "073bc230fb55c5570896d2816bf93f165db5a6122517ae7d73875354b2b2d097"), looks := true }, kinds := [], alts := [], laidByText := true, laidKinds := [.data, .data, .data, .data, .sentinel, .sentinel, .pinned], laidTests := true, laidLooks := .later }
def DriverRunAgreesUptoCardSaid : Prop := Claim7.holds Tryd.pinned (.plain (OpenSpec.upto driverRunAgreesSpec)) driverRunAgreesUptoCard

/-- THE SECOND FORM's CARD OF 'platformfwlaw26.DriverIgnoresOtherEvents'. -/
def driverIgnoresOtherEventsUptoCard : Claim7 := { stood := { row := driverIgnoresOtherEventsUptoRow, standIns := [], harness := (true, "073bc230fb55c5570896d2816bf93f165db5a6122517ae7d73875354b2b2d097"), looks := true }, kinds := [], alts := [], laidByText := true, laidKinds := [.data, .data, .data, .data, .sentinel, .sentinel, .pinned], laidTests := true, laidLooks := .later }
def DriverIgnoresOtherEventsUptoCardSaid : Prop := Claim7.holds Tryd.pinned (.plain (OpenSpec.upto driverIgnoresOtherEventsSpec)) driverIgnoresOtherEventsUptoCard

/-- THE SECOND FORM's CARD OF 'platformfwlaw26.DriverCheckAgrees'. -/
def driverCheckAgreesUptoCard : Claim7 := { stood := { row := driverCheckAgreesUptoRow, standIns := [], harness := (true, "073bc230fb55c5570896d2816bf93f165db5a6122517ae7d73875354b2b2d097"), looks := true }, kinds := [], alts := [], laidByText := true, laidKinds := [.data, .data, .data, .data, .sentinel, .sentinel, .pinned], laidTests := true, laidLooks := .later }
def DriverCheckAgreesUptoCardSaid : Prop := Claim7.holds Tryd.pinned (.plain (OpenSpec.upto driverCheckAgreesSpec)) driverCheckAgreesUptoCard

/-- THE SECOND FORM's CARD OF 'platformfwlaw26.DriverStaysReachable'. -/
def driverStaysReachableUptoCard : Claim7 := { stood := { row := driverStaysReachableUptoRow, standIns := [], harness := (true, "073bc230fb55c5570896d2816bf93f165db5a6122517ae7d73875354b2b2d097"), looks := true }, kinds := [], alts := [], laidByText := true, laidKinds := [.data, .data, .data, .data, .sentinel, .sentinel, .pinned], laidTests := true, laidLooks := .later }
def DriverStaysReachableUptoCardSaid : Prop := Claim7.holds Tryd.pinned (.plain (OpenSpec.upto driverStaysReachableSpec)) driverStaysReachableUptoCard

/-- THE SECOND FORM's CARD OF 'platformfwlaw26.DriverUnreachableTransitions'. -/
def driverUnreachableTransitionsUptoCard : Claim7 := { stood := { row := driverUnreachableTransitionsUptoRow, standIns := [], harness := (true, "073bc230fb55c5570896d2816bf93f165db5a6122517ae7d73875354b2b2d097"), looks := true }, kinds := [], alts := [], laidByText := true, laidKinds := [.data, .data, .data, .data, .sentinel, .sentinel, .pinned], laidTests := true, laidLooks := .later }
def DriverUnreachableTransitionsUptoCardSaid : Prop := Claim7.holds Tryd.pinned (.plain (OpenSpec.upto driverUnreachableTransitionsSpec)) driverUnreachableTransitionsUptoCard
end Rows
end Go.Proofs.YtplmfekhdaefaaaDoor
