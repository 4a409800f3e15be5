/-
  Facts of the whole program.
-/
import Derived.Test.YtepmocimmmjinaaGreatDoorRows
import Derived.Test.YtepmocimmmjinaaGreatDoorP06
import Derived.ProofKit
import Derived.OpenShut
import Derived.ChangeOld
import Derived.Below
import Derived.ChangeMaps5
import Derived.ChangeSame
import Derived.ChangeVars
import Derived.JoinedOf
import Derived.RowKit
import Derived.RowKitTokens
import Derived.Lay
import Derived.SevenTiedAt
namespace Go.Proofs.YtepmocimmmjinaaGreatDoor.controlStoppedDriversRest
open Go Go.ChangeShapes Go.WideShapes Go.ChangeAt Go.RowKit
set_option maxRecDepth 100000 in
theorem jA:(Rows.controlStoppedDriversRestRow.inPlace==Tryz.prog.inPlace 3)=true:=zk
set_option maxRecDepth 100000 in
theorem jB:(Rows.controlStoppedDriversRestRow.unfollowed==Tryz.prog.unfollowed 3)=true:=zk
set_option maxRecDepth 100000 in
theorem jC:(Rows.controlStoppedDriversRestRow.recurses==Tryz.prog.recurses 3)=true:=zk
set_option maxRecDepth 100000 in
theorem jD:(Rows.controlStoppedDriversRestRow.named==Tryz.prog.varsNamed 3)=true:=zk
set_option maxRecDepth 100000 in
theorem closed:joinedFacts Tryz.prog 3 Tryz.f3 Rows.controlStoppedDriversRestSpec Rows.controlStoppedDriversRestRow=true:=by
 unfold joinedFacts;rw[jA,jB,jC,jD,GN,YG,YH];kernel_rfl
end Go.Proofs.YtepmocimmmjinaaGreatDoor.controlStoppedDriversRest
