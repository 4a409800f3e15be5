/-
  Facts off the tables of the program.
-/
import Derived.Test.YtplmfekhdaefaaaDoorProg
import Derived.Test.YtplmfekhdaefaaaDoorTabA
set_option linter.unusedSimpArgs false
set_option linter.unusedVariables false
namespace Go.Proofs.YtplmfekhdaefaaaDoor
open Go
theorem T6 : Tryd.f6.ntmps = 164 := by kernel_rfl
theorem B16 : Tryd.f16.body.isSome = true := by kernel_rfl
theorem N16 : (Tryd.f16.name == "runtime.NumGoroutine") = false := by kernel_rfl
theorem B10 : Tryd.f10.body.isSome = true := by kernel_rfl
theorem N10 : (Tryd.f10.name == "runtime.NumGoroutine") = false := by kernel_rfl
theorem B17 : Tryd.f17.body.isSome = true := by kernel_rfl
theorem N17 : (Tryd.f17.name == "runtime.NumGoroutine") = false := by kernel_rfl
theorem B23 : Tryd.f23.body.isSome = true := by kernel_rfl
theorem N23 : (Tryd.f23.name == "runtime.NumGoroutine") = false := by kernel_rfl
end Go.Proofs.YtplmfekhdaefaaaDoor
