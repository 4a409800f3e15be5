/-
  What the cards ask of the whole program, once for all laws.
-/
import Derived.Test.YtdfkpdcpegcieaaGreatDoorRows
import Derived.JoinedOf
import Derived.ProofKit
set_option linter.unusedSimpArgs false
set_option linter.unusedVariables false
namespace Go.Proofs.YtdfkpdcpegcieaaGreatDoor
open Go Go.RowKit
set_option maxRecDepth 100000 in
theorem jLaidOut : laidOutB Tryz.prog = true := by kernel_rfl
set_option maxRecDepth 100000 in
theorem jMapsRowed : mapsRowed Tryz.prog = true := by kernel_rfl
set_option maxRecDepth 100000 in
theorem jMayEnter : Tryz.prog.mayEnter = true := by kernel_rfl
end Go.Proofs.YtdfkpdcpegcieaaGreatDoor
