/-
  Facts off the tables of the program.
-/
import Derived.Test.YtdfkpdcpegcieaaGreatDoorProg
import Derived.Test.YtdfkpdcpegcieaaGreatDoorTab21
set_option linter.unusedSimpArgs false
set_option linter.unusedVariables false
namespace Go.Proofs.YtdfkpdcpegcieaaGreatDoor
open Go
theorem B65 : Tryz.f65.body.isSome = true := by kernel_rfl
theorem N65 : (Tryz.f65.name == "runtime.NumGoroutine") = false := by kernel_rfl
theorem T29 : Tryz.f29.ntmps = 45 := by kernel_rfl
theorem B67 : Tryz.f67.body.isSome = true := by kernel_rfl
theorem N67 : (Tryz.f67.name == "runtime.NumGoroutine") = false := by kernel_rfl
end Go.Proofs.YtdfkpdcpegcieaaGreatDoor
