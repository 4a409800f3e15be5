/-
  Facts off the tables of the program.
-/
import Derived.Test.YtaafpnoffdcbnaaProg
import Derived.Test.YtaafpnoffdcbnaaTab10
set_option linter.unusedSimpArgs false
set_option linter.unusedVariables false
namespace Go.Proofs.Ytaafpnoffdcbnaa
open Go
theorem T8 : Try.f8.ntmps = 148 := by kernel_rfl
theorem B24 : Try.f24.body.isSome = true := by kernel_rfl
theorem N24 : (Try.f24.name == "runtime.NumGoroutine") = false := by kernel_rfl
theorem B25 : Try.f25.body.isSome = true := by kernel_rfl
theorem N25 : (Try.f25.name == "runtime.NumGoroutine") = false := by kernel_rfl
theorem B26 : Try.f26.body.isSome = true := by kernel_rfl
theorem N26 : (Try.f26.name == "runtime.NumGoroutine") = false := by kernel_rfl
end Go.Proofs.Ytaafpnoffdcbnaa
