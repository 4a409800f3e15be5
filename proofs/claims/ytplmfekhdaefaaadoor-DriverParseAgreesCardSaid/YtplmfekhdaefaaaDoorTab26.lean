/-
  Facts off the tables of the program.
-/
import Derived.Test.YtplmfekhdaefaaaDoorProg
import Derived.Test.YtplmfekhdaefaaaDoorTab25
set_option linter.unusedSimpArgs false
set_option linter.unusedVariables false
namespace Go.Proofs.YtplmfekhdaefaaaDoor
open Go
theorem Ba64_3 (x00 x01 x02 : Value) (x10 x11 x12 : Value) (x20 x21 x22 : Value) (w : World) : (Instr.build 64 [(0, .agg #[x00, x01, x02]), (1, .agg #[x10, x11, x12]), (2, .agg #[x20, x21, x22])].toArray).run Tryd.prog w = .ok (.agg [x00, x01, x02, x10, x11, x12, x20, x21, x22].toArray) w := by kernel_rfl
theorem T7 : Tryd.f7.ntmps = 85 := by kernel_rfl
theorem B28 : Tryd.f28.body.isSome = true := by kernel_rfl
theorem N28 : (Tryd.f28.name == "runtime.NumGoroutine") = false := by kernel_rfl
theorem B30 : Tryd.f30.body.isSome = true := by kernel_rfl
theorem N30 : (Tryd.f30.name == "runtime.NumGoroutine") = false := by kernel_rfl
theorem B33 : Tryd.f33.body.isSome = true := by kernel_rfl
theorem N33 : (Tryd.f33.name == "runtime.NumGoroutine") = false := by kernel_rfl
end Go.Proofs.YtplmfekhdaefaaaDoor
