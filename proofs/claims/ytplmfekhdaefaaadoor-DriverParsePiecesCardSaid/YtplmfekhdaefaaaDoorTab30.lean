/-
  Facts off the tables of the program.
-/
import Derived.Test.YtplmfekhdaefaaaDoorProg
import Derived.Test.YtplmfekhdaefaaaDoorTab29
set_option linter.unusedSimpArgs false
set_option linter.unusedVariables false
namespace Go.Proofs.YtplmfekhdaefaaaDoor
open Go
theorem T38 : Tryd.f38.ntmps = 32 := by kernel_rfl
theorem T40 : Tryd.f40.ntmps = 96 := by kernel_rfl
theorem F88_2 (b o : Nat) (w : World) : (Instr.fieldAt 88 (.pointer (some ⟨b, o, none⟩)) 2).run Tryd.prog w = .ok (.pointer (some ⟨b, o + 4, none⟩)) w := by kernel_rfl
theorem F88_0 (b o : Nat) (w : World) : (Instr.fieldAt 88 (.pointer (some ⟨b, o, none⟩)) 0).run Tryd.prog w = .ok (.pointer (some ⟨b, o, none⟩)) w := by kernel_rfl
theorem B66 : Tryd.f66.body.isSome = true := by kernel_rfl
theorem N66 : (Tryd.f66.name == "runtime.NumGoroutine") = false := by kernel_rfl
theorem F88_1 (b o : Nat) (w : World) : (Instr.fieldAt 88 (.pointer (some ⟨b, o, none⟩)) 1).run Tryd.prog w = .ok (.pointer (some ⟨b, o + 3, none⟩)) w := by kernel_rfl
theorem Bs86_1_0 (x00 x01 x02 x03 x04 x05 x06 x07 x08 : Value) (w : World) : (Instr.buildSlice 86 1 [(0, .agg #[x00, x01, x02, x03, x04, x05, x06, x07, x08])].toArray).run Tryd.prog w = .ok (.slice (some ⟨w.heap.size, 0, none⟩) 1 1) (w.alloc (.cells [x00, x01, x02, x03, x04, x05, x06, x07, x08].toArray 95)) := by kernel_rfl
theorem I86 : Sv.TI Tryd.prog 86 (.slice none 0 0) 1 24 := by unfold Sv.TI; kernel_rfl
end Go.Proofs.YtplmfekhdaefaaaDoor
