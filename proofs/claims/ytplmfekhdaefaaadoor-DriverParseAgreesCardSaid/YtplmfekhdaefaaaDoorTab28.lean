/-
  Facts off the tables of the program.
-/
import Derived.Test.YtplmfekhdaefaaaDoorProg
import Derived.Test.YtplmfekhdaefaaaDoorTab27
set_option linter.unusedSimpArgs false
set_option linter.unusedVariables false
namespace Go.Proofs.YtplmfekhdaefaaaDoor
open Go
theorem T65 : Tryd.f65.ntmps = 21 := by kernel_rfl
theorem F129_0 (b o : Nat) (w : World) : (Instr.fieldAt 129 (.pointer (some ⟨b, o, none⟩)) 0).run Tryd.prog w = .ok (.pointer (some ⟨b, o, none⟩)) w := by kernel_rfl
theorem Bs155_1_0 (x0 : Int) (w : World) : (Instr.buildSlice 155 1 [(0, .int .u8 x0)].toArray).run Tryd.prog w = .ok (.slice (some ⟨w.heap.size, 0, none⟩) 1 1) (w.alloc (.cells [.int .u8 x0].toArray 5)) := by kernel_rfl
theorem T83 : Tryd.f83.ntmps = 76 := by kernel_rfl
theorem B65 : Tryd.f65.body.isSome = true := by kernel_rfl
theorem N65 : (Tryd.f65.name == "runtime.NumGoroutine") = false := by kernel_rfl
theorem F129_1 (b o : Nat) (w : World) : (Instr.fieldAt 129 (.pointer (some ⟨b, o, none⟩)) 1).run Tryd.prog w = .ok (.pointer (some ⟨b, o + 1, none⟩)) w := by kernel_rfl
theorem F129_2 (b o : Nat) (w : World) : (Instr.fieldAt 129 (.pointer (some ⟨b, o, none⟩)) 2).run Tryd.prog w = .ok (.pointer (some ⟨b, o + 2, none⟩)) w := by kernel_rfl
end Go.Proofs.YtplmfekhdaefaaaDoor
