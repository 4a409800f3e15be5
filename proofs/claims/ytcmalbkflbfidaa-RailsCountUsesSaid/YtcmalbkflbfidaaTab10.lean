/-
  Facts off the tables of the program.
-/
import Derived.Test.YtcmalbkflbfidaaProg
import Derived.Test.YtcmalbkflbfidaaTab9
set_option linter.unusedSimpArgs false
set_option linter.unusedVariables false
namespace Go.Proofs.Ytcmalbkflbfidaa
open Go
theorem T7 : Try.f7.ntmps = 147 := by kernel_rfl
theorem B23 : Try.f23.body.isSome = true := by kernel_rfl
theorem N23 : (Try.f23.name == "runtime.NumGoroutine") = false := by kernel_rfl
theorem B25 : Try.f25.body.isSome = true := by kernel_rfl
theorem N25 : (Try.f25.name == "runtime.NumGoroutine") = false := by kernel_rfl
theorem B26 : Try.f26.body.isSome = true := by kernel_rfl
theorem N26 : (Try.f26.name == "runtime.NumGoroutine") = false := by kernel_rfl
theorem B28 : Try.f28.body.isSome = true := by kernel_rfl
theorem N28 : (Try.f28.name == "runtime.NumGoroutine") = false := by kernel_rfl
end Go.Proofs.Ytcmalbkflbfidaa
