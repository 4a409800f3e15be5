/-
  Facts off the tables of the program.
-/
import Derived.Test.YtcmalbkflbfidaaProg
import Derived.Test.YtcmalbkflbfidaaTab8
set_option linter.unusedSimpArgs false
set_option linter.unusedVariables false
namespace Go.Proofs.Ytcmalbkflbfidaa
open Go
theorem T6 : Try.f6.ntmps = 125 := by kernel_rfl
theorem B20 : Try.f20.body.isSome = true := by kernel_rfl
theorem N20 : (Try.f20.name == "runtime.NumGoroutine") = false := by kernel_rfl
end Go.Proofs.Ytcmalbkflbfidaa
