/-
  Facts of the whole program.
-/
import Derived.Test.YtdoihieboknmnaaGreatDoorRows
import Derived.Test.YtdoihieboknmnaaGreatDoorP06
import Derived.ProofKit
import Derived.OpenShut
import Derived.ChangeOld
import Derived.Below
import Derived.ChangeMaps5
import Derived.ChangeSame
import Derived.ChangeVars
import Derived.JoinedOf
import Derived.RowKit
import Derived.RowKitTokens
import Derived.Lay
import Derived.SevenTiedAt
namespace Go.Proofs.YtdoihieboknmnaaGreatDoor.controlDeliversRequests
open Go Go.ChangeShapes Go.WideShapes Go.ChangeAt Go.RowKit
set_option maxRecDepth 100000 in
theorem jA:(Rows.controlDeliversRequestsRow.inPlace==Tryz.prog.inPlace 3)=true:=by kernel_rfl
set_option maxRecDepth 100000 in
theorem jB:(Rows.controlDeliversRequestsRow.unfollowed==Tryz.prog.unfollowed 3)=true:=by kernel_rfl
set_option maxRecDepth 100000 in
theorem jC:(Rows.controlDeliversRequestsRow.recurses==Tryz.prog.recurses 3)=true:=by kernel_rfl
set_option maxRecDepth 100000 in
theorem jD:(Rows.controlDeliversRequestsRow.named==Tryz.prog.varsNamed 3)=true:=by kernel_rfl
set_option maxRecDepth 100000 in
theorem closed:joinedFacts Tryz.prog 3 Tryz.f3 Rows.controlDeliversRequestsSpec Rows.controlDeliversRequestsRow=true:=by
 unfold joinedFacts;rw[jA,jB,jC,jD,kHD,kIQ,kIv];kernel_rfl
end Go.Proofs.YtdoihieboknmnaaGreatDoor.controlDeliversRequests
