/-
  Facts off the tables of the program.
-/
import Derived.Test.YtplmfekhdaefaaaDoorProg
import Derived.Test.YtplmfekhdaefaaaDoorTab23
set_option linter.unusedSimpArgs false
set_option linter.unusedVariables false
namespace Go.Proofs.YtplmfekhdaefaaaDoor
open Go
theorem T9 : Tryd.f9.ntmps = 184 := by kernel_rfl
theorem Bd26_0_1 (x0 : ByteArray) (x1 : Option Addr) (x1n x1c : Nat) (w : World) : (Instr.build 26 [(0, .string x0), (1, .slice x1 x1n x1c)].toArray).run Tryd.prog w = .ok (.agg [.string x0, .slice x1 x1n x1c, .slice none 0 0].toArray) w := by kernel_rfl
end Go.Proofs.YtplmfekhdaefaaaDoor
