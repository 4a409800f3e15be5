/-
  Facts off the tables of the program.
-/
import Derived.Test.YtcmalbkflbfidaaProg
import Derived.Test.YtcmalbkflbfidaaTab7
set_option linter.unusedSimpArgs false
set_option linter.unusedVariables false
namespace Go.Proofs.Ytcmalbkflbfidaa
open Go
theorem T3 : Try.f3.ntmps = 83 := by kernel_rfl
theorem B12 : Try.f12.body.isSome = true := by kernel_rfl
theorem N12 : (Try.f12.name == "runtime.NumGoroutine") = false := by kernel_rfl
theorem B14 : Try.f14.body.isSome = true := by kernel_rfl
theorem N14 : (Try.f14.name == "runtime.NumGoroutine") = false := by kernel_rfl
theorem B15 : Try.f15.body.isSome = true := by kernel_rfl
theorem N15 : (Try.f15.name == "runtime.NumGoroutine") = false := by kernel_rfl
end Go.Proofs.Ytcmalbkflbfidaa
