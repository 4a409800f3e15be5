/-
  Facts off the tables of the program.
-/
import Derived.Test.YtplmfekhdaefaaaDoorProg
import Derived.Test.YtplmfekhdaefaaaDoorTab24
set_option linter.unusedSimpArgs false
set_option linter.unusedVariables false
namespace Go.Proofs.YtplmfekhdaefaaaDoor
open Go
theorem T30 : Tryd.f30.ntmps = 67 := by kernel_rfl
theorem T28 : Tryd.f28.ntmps = 105 := by kernel_rfl
theorem Bd71_2 (x2 : Int) (w : World) : (Instr.build 71 [(2, .int .u64 x2)].toArray).run Tryd.prog w = .ok (.agg [.bool false, .int .u64 0, .int .u64 x2].toArray) w := by kernel_rfl
end Go.Proofs.YtplmfekhdaefaaaDoor
