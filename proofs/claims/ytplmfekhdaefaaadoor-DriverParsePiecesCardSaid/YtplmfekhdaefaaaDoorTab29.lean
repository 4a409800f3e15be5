/-
  Facts off the tables of the program.
-/
import Derived.Test.YtplmfekhdaefaaaDoorProg
import Derived.Test.YtplmfekhdaefaaaDoorTab28
set_option linter.unusedSimpArgs false
set_option linter.unusedVariables false
namespace Go.Proofs.YtplmfekhdaefaaaDoor
open Go
theorem I95 : Sv.TI Tryd.prog 95 (.agg #[.int .i64 0, .string (Sv.bs []), .bool false, .int .u64 0, .int .u64 0, .int .u64 0, .slice none 0 0, .int .i64 0, .string (Sv.bs [])]) 9 104 := by unfold Sv.TI; kernel_rfl
theorem T66 : Tryd.f66.ntmps = 89 := by kernel_rfl
theorem F95_0 (b o : Nat) (w : World) : (Instr.fieldAt 95 (.pointer (some ⟨b, o, none⟩)) 0).run Tryd.prog w = .ok (.pointer (some ⟨b, o, none⟩)) w := by kernel_rfl
theorem F95_1 (b o : Nat) (w : World) : (Instr.fieldAt 95 (.pointer (some ⟨b, o, none⟩)) 1).run Tryd.prog w = .ok (.pointer (some ⟨b, o + 8, none⟩)) w := by kernel_rfl
theorem B83 : Tryd.f83.body.isSome = true := by kernel_rfl
theorem N83 : (Tryd.f83.name == "runtime.NumGoroutine") = false := by kernel_rfl
end Go.Proofs.YtplmfekhdaefaaaDoor
