/-
  Facts off the tables of the program.
-/
import Derived.Test.YtaafpnoffdcbnaaProg
import Derived.Test.YtaafpnoffdcbnaaTab13
set_option linter.unusedSimpArgs false
set_option linter.unusedVariables false
namespace Go.Proofs.Ytaafpnoffdcbnaa
open Go
theorem T11 : Try.f11.ntmps = 156 := by kernel_rfl
end Go.Proofs.Ytaafpnoffdcbnaa
