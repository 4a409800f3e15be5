/-
  Facts off the tables of the program.
-/
import Derived.Test.YtcmalbkflbfidaaProg
import Derived.Test.YtcmalbkflbfidaaTab10
set_option linter.unusedSimpArgs false
set_option linter.unusedVariables false
namespace Go.Proofs.Ytcmalbkflbfidaa
open Go
theorem T8 : Try.f8.ntmps = 130 := by kernel_rfl
end Go.Proofs.Ytcmalbkflbfidaa
