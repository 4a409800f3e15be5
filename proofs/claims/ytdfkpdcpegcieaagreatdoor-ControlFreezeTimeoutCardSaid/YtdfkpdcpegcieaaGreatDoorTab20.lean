/-
  Facts off the tables of the program.
-/
import Derived.Test.YtdfkpdcpegcieaaGreatDoorProg
import Derived.Test.YtdfkpdcpegcieaaGreatDoorTab19
set_option linter.unusedSimpArgs false
set_option linter.unusedVariables false
namespace Go.Proofs.YtdfkpdcpegcieaaGreatDoor
open Go
theorem T3 : Tryz.f3.ntmps = 180 := by kernel_rfl
theorem B12 : Tryz.f12.body.isSome = true := by kernel_rfl
theorem N12 : (Tryz.f12.name == "runtime.NumGoroutine") = false := by kernel_rfl
end Go.Proofs.YtdfkpdcpegcieaaGreatDoor
