/-
  Facts off the tables of the program.
-/
import Derived.Test.YtaafpnoffdcbnaaProg
import Derived.Test.YtaafpnoffdcbnaaTab11
set_option linter.unusedSimpArgs false
set_option linter.unusedVariables false
namespace Go.Proofs.Ytaafpnoffdcbnaa
open Go
theorem T9 : Try.f9.ntmps = 82 := by kernel_rfl
theorem B27 : Try.f27.body.isSome = true := by kernel_rfl
theorem N27 : (Try.f27.name == "runtime.NumGoroutine") = false := by kernel_rfl
end Go.Proofs.Ytaafpnoffdcbnaa
