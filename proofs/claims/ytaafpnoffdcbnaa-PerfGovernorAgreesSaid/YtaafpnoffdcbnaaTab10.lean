/-
  Facts off the tables of the program.
-/
import Derived.Test.YtaafpnoffdcbnaaProg
import Derived.Test.YtaafpnoffdcbnaaTab9
set_option linter.unusedSimpArgs false
set_option linter.unusedVariables false
namespace Go.Proofs.Ytaafpnoffdcbnaa
open Go
theorem T7 : Try.f7.ntmps = 117 := by kernel_rfl
end Go.Proofs.Ytaafpnoffdcbnaa
