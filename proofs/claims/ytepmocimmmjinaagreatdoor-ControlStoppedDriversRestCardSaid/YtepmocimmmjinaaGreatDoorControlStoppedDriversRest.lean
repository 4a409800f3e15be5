/-
  The whole claim.
-/
import Derived.Test.YtepmocimmmjinaaGreatDoorRows
import Derived.Test.YtepmocimmmjinaaGreatDoorTie
import Derived.Test.YtepmocimmmjinaaGreatDoorCards
import Derived.Test.YtepmocimmmjinaaGreatDoorP26
import Derived.Test.YtepmocimmmjinaaGreatDoorP25
import Derived.ProofKit
import Derived.OpenShut
import Derived.ChangeOld
import Derived.Below
import Derived.ChangeMaps5
import Derived.ChangeSame
import Derived.ChangeVars
import Derived.JoinedOf
import Derived.RowKit
import Derived.RowKitTokens
import Derived.Lay
import Derived.SevenTiedAt
set_option linter.unusedSimpArgs false
set_option linter.unusedVariables false
namespace Go.Proofs.YtepmocimmmjinaaGreatDoor.controlStoppedDriversRest
open Go Go.ChangeShapes Go.WideShapes Go.ChangeAt Go.RowKit Go.Sv Go.Pw Go.Proofs.YtepmocimmmjinaaGreatDoor.Pw Go.Proofs.YtepmocimmmjinaaGreatDoor.Dv
theorem proved:Rows.ControlStoppedDriversRestCardSaid:=
 Claim7.holds_tied_plain_at .later [] [.data,.data,.data,.data,.sentinel,.sentinel,.pinned] true (true,"3fe98e91520350bad6090ca850dfac52f83098b7e631d5789a786d8ae22bb437") true holds (fun _ h=>by cases h) (by kernel_rfl) (fun _ h=>by cases h) controlStoppedDriversRest_row_tie rfl ⟨rfl,rfl⟩ (by kernel_rfl) rfl
  (fun f fn d b=>by
   obtain rfl:f=3:=Option.some.inj ((show Tryz.prog.funcNamed "platformfw/platformfwlaw44.ControlStoppedDriversRest"=some 3 by kernel_rfl).symm.trans d) |>.symm;obtain rfl:fn=Tryz.f3:=(Option.some.inj (Tryz.func3.symm.trans b)).symm;exact⟨by kernel_rfl,fun j t c=>by
    rw[Tryz.params3] at c;have e:t∈[22,23,24,3,3,25]:=by simpa using Array.mem_of_getElem? c
    have a:([22,23,24,3,3,25].all fun u=>!Tryz.prog.wantsStandIn u)=true:=by kernel_rfl
    exact(show Tryz.prog.wantsStandIn t=false by simpa using List.all_eq_true.1 a t e)⟩)
  kB
#print axioms proved
end Go.Proofs.YtepmocimmmjinaaGreatDoor.controlStoppedDriversRest
