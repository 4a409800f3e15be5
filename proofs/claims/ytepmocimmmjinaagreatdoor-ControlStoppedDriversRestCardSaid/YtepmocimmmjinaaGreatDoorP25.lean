/-
  A fact of the whole program.
-/
import Derived.Test.YtepmocimmmjinaaGreatDoorRows
import Derived.ProofKit
import Derived.OpenShut
import Derived.ChangeOld
import Derived.Below
import Derived.ChangeMaps5
import Derived.ChangeSame
import Derived.ChangeVars
import Derived.JoinedOf
import Derived.RowKit
import Derived.RowKitTokens
import Derived.Lay
import Derived.SevenTiedAt
namespace Go.Proofs.YtepmocimmmjinaaGreatDoor.controlStoppedDriversRest
open Go Go.ChangeShapes Go.WideShapes Go.ChangeAt Go.RowKit
set_option maxRecDepth 100000
theorem kB:false=Rows.controlStoppedDriversRestRow.goesBy Tryz.prog:=by kernel_rfl
end Go.Proofs.YtepmocimmmjinaaGreatDoor.controlStoppedDriversRest
