/-
  Facts off the tables of the program.
-/
import Derived.Test.YtcmalbkflbfidaaProg
import Derived.Test.YtcmalbkflbfidaaTab13
set_option linter.unusedSimpArgs false
set_option linter.unusedVariables false
namespace Go.Proofs.Ytcmalbkflbfidaa
open Go
theorem T10 : Try.f10.ntmps = 176 := by kernel_rfl
theorem B30 : Try.f30.body.isSome = true := by kernel_rfl
theorem N30 : (Try.f30.name == "runtime.NumGoroutine") = false := by kernel_rfl
end Go.Proofs.Ytcmalbkflbfidaa
