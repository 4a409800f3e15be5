/-
  Facts off the tables of the program.
-/
import Derived.Test.YtplmfekhdaefaaaDoorProg
import Derived.Test.YtplmfekhdaefaaaDoorTab21
set_option linter.unusedSimpArgs false
set_option linter.unusedVariables false
namespace Go.Proofs.YtplmfekhdaefaaaDoor
open Go
theorem T29 : Tryd.f29.ntmps = 63 := by kernel_rfl
theorem Bs32_1_0 (x0 : Int) (w : World) : (Instr.buildSlice 32 1 [(0, .int .i64 x0)].toArray).run Tryd.prog w = .ok (.slice (some ⟨w.heap.size, 0, none⟩) 1 1) (w.alloc (.cells [.int .i64 x0].toArray 3)) := by kernel_rfl
end Go.Proofs.YtplmfekhdaefaaaDoor
