/-
  Facts off the tables of the program.
-/
import Derived.Test.YthdpojggdodpfaaProg
import Derived.Test.YthdpojggdodpfaaTab3
set_option linter.unusedSimpArgs false
set_option linter.unusedVariables false
namespace Go.Proofs.Ythdpojggdodpfaa
open Go
theorem X49a : (Try.f49.name == "runtime.NumGoroutine") = false := by kernel_rfl
theorem X49b : Try.f49.body.isNone = true := by kernel_rfl
theorem X49c : Extern.findNext Try.f49 = none := by kernel_rfl
theorem X49d : Extern.find Try.f49 = some (Extern.SlicesOverlaps.overlaps #[67, 67] #[4]) := by kernel_rfl
theorem T28 : Try.f28.ntmps = 95 := by kernel_rfl
end Go.Proofs.Ythdpojggdodpfaa
