/-
  Facts off the tables of the program.
-/
import Derived.Test.YtplmfekhdaefaaaDoorProg
import Derived.Test.YtplmfekhdaefaaaDoorTab22
set_option linter.unusedSimpArgs false
set_option linter.unusedVariables false
namespace Go.Proofs.YtplmfekhdaefaaaDoor
open Go
theorem T8 : Tryd.f8.ntmps = 133 := by kernel_rfl
theorem B29 : Tryd.f29.body.isSome = true := by kernel_rfl
theorem N29 : (Tryd.f29.name == "runtime.NumGoroutine") = false := by kernel_rfl
end Go.Proofs.YtplmfekhdaefaaaDoor
