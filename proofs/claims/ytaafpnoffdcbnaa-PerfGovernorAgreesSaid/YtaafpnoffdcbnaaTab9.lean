/-
  Facts off the tables of the program.
-/
import Derived.Test.YtaafpnoffdcbnaaProg
import Derived.Test.YtaafpnoffdcbnaaTab8
set_option linter.unusedSimpArgs false
set_option linter.unusedVariables false
namespace Go.Proofs.Ytaafpnoffdcbnaa
open Go
theorem T6 : Try.f6.ntmps = 115 := by kernel_rfl
theorem B23 : Try.f23.body.isSome = true := by kernel_rfl
theorem N23 : (Try.f23.name == "runtime.NumGoroutine") = false := by kernel_rfl
end Go.Proofs.Ytaafpnoffdcbnaa
