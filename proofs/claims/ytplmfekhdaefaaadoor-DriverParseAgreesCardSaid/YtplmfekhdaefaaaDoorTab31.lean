/-
  Facts off the tables of the program.
-/
import Derived.Test.YtplmfekhdaefaaaDoorProg
import Derived.Test.YtplmfekhdaefaaaDoorTab30
set_option linter.unusedSimpArgs false
set_option linter.unusedVariables false
namespace Go.Proofs.YtplmfekhdaefaaaDoor
open Go
theorem T12 : Tryd.f12.ntmps = 139 := by kernel_rfl
theorem Bd88_  (w : World) : (Instr.build 88 [].toArray).run Tryd.prog w = .ok (.agg [.string (Sv.bs []), .slice none 0 0, .slice none 0 0, .slice none 0 0, .bool false].toArray) w := by kernel_rfl
theorem B38 : Tryd.f38.body.isSome = true := by kernel_rfl
theorem N38 : (Tryd.f38.name == "runtime.NumGoroutine") = false := by kernel_rfl
theorem B39 : Tryd.f39.body.isSome = true := by kernel_rfl
theorem N39 : (Tryd.f39.name == "runtime.NumGoroutine") = false := by kernel_rfl
theorem B40 : Tryd.f40.body.isSome = true := by kernel_rfl
theorem N40 : (Tryd.f40.name == "runtime.NumGoroutine") = false := by kernel_rfl
end Go.Proofs.YtplmfekhdaefaaaDoor
