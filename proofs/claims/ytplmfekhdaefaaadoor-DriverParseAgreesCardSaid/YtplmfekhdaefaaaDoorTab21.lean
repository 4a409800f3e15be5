/-
  Facts off the tables of the program.
-/
import Derived.Test.YtplmfekhdaefaaaDoorProg
import Derived.Test.YtplmfekhdaefaaaDoorTab20
set_option linter.unusedSimpArgs false
set_option linter.unusedVariables false
namespace Go.Proofs.YtplmfekhdaefaaaDoor
open Go
theorem T5 : Tryd.f5.ntmps = 139 := by kernel_rfl
theorem B19 : Tryd.f19.body.isSome = true := by kernel_rfl
theorem N19 : (Tryd.f19.name == "runtime.NumGoroutine") = false := by kernel_rfl
theorem B21 : Tryd.f21.body.isSome = true := by kernel_rfl
theorem N21 : (Tryd.f21.name == "runtime.NumGoroutine") = false := by kernel_rfl
theorem B24 : Tryd.f24.body.isSome = true := by kernel_rfl
theorem N24 : (Tryd.f24.name == "runtime.NumGoroutine") = false := by kernel_rfl
end Go.Proofs.YtplmfekhdaefaaaDoor
