/-
  DERIVED. GIVEN WITH THE SEED: THE CARDS: each row of YtdoihieboknmnaaGreatDoorRows.lean that lists a variable, with what it lists TIED to the program's text (the seventh form; the later family's looks); each row that meets fmt, with fmt's text TOLD by the authors' own Lean function (tested against real Go, not proved from fmt's source: count such statements apart). THE CARD IS WHAT COUNTS. Prove the row's statement (the work); the ties are given (YtdoihieboknmnaaGreatDoorTie.lean); close each card by the builder's one call (the guide's Derived/Test/ToyasCard.lean, 'card_holds'). Laid BY PROGRAM, IN A SANDBOX (cutbox-door.mjs). By AI agents, Wed Nov 11 2026. No macro, syntax, notation, axiom, sorry.
-/
import Derived.Test.YtdoihieboknmnaaGreatDoorRows
import GoSem.ClaimSeven
namespace Go.Proofs.YtdoihieboknmnaaGreatDoor
namespace Rows

/-- THE TIED CARD OF 'platformfwlaw44.ControlDeliversRequests'. -/
def controlDeliversRequestsCard : Claim7 := { stood := { row := controlDeliversRequestsRow, standIns := [], harness := (true, "198380d6c770d5af5cdb25d91993ae203c6425b6ed6b4f4d76b673031be61062"), looks := true }, kinds := [], alts := [], laidByText := true, laidKinds := [.data, .data, .data, .data, .sentinel, .sentinel, .pinned], laidTests := true, laidLooks := .later }
def ControlDeliversRequestsCardSaid : Prop := Claim7.holds Tryz.pinned (.plain (OpenSpec.ofChange controlDeliversRequestsSpec)) controlDeliversRequestsCard

/-- THE SECOND FORM's CARD OF 'platformfwlaw44.ControlDeliversRequests'. -/
def controlDeliversRequestsUptoCard : Claim7 := { stood := { row := controlDeliversRequestsUptoRow, standIns := [], harness := (true, "198380d6c770d5af5cdb25d91993ae203c6425b6ed6b4f4d76b673031be61062"), looks := true }, kinds := [], alts := [], laidByText := true, laidKinds := [.data, .data, .data, .data, .sentinel, .sentinel, .pinned], laidTests := true, laidLooks := .later }
def ControlDeliversRequestsUptoCardSaid : Prop := Claim7.holds Tryz.pinned (.plain (OpenSpec.upto controlDeliversRequestsSpec)) controlDeliversRequestsUptoCard
end Rows
end Go.Proofs.YtdoihieboknmnaaGreatDoor
