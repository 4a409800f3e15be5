/-
  Facts off the tables of the program.
-/
import Derived.Test.YtcmalbkflbfidaaProg
import Derived.Test.YtcmalbkflbfidaaTab3
set_option linter.unusedSimpArgs false
set_option linter.unusedVariables false
namespace Go.Proofs.Ytcmalbkflbfidaa
open Go
theorem T49 : Try.f49.ntmps = 47 := by kernel_rfl
theorem I57 : Sv.TI Try.prog 57 (.slice none 0 0) 1 24 := by unfold Sv.TI; kernel_rfl
theorem Bs57_1_0 (x0 : Int) (w : World) : (Instr.buildSlice 57 1 [(0, .int .i64 x0)].toArray).run Try.prog w = .ok (.slice (some ⟨w.heap.size, 0, none⟩) 1 1) (w.alloc (.cells [.int .i64 x0].toArray 3)) := by kernel_rfl
theorem T44 : Try.f44.ntmps = 62 := by kernel_rfl
theorem B49 : Try.f49.body.isSome = true := by kernel_rfl
theorem N49 : (Try.f49.name == "runtime.NumGoroutine") = false := by kernel_rfl
theorem B50 : Try.f50.body.isSome = true := by kernel_rfl
theorem N50 : (Try.f50.name == "runtime.NumGoroutine") = false := by kernel_rfl
theorem T33 : Try.f33.ntmps = 18 := by kernel_rfl
theorem B43 : Try.f43.body.isSome = true := by kernel_rfl
theorem N43 : (Try.f43.name == "runtime.NumGoroutine") = false := by kernel_rfl
theorem B44 : Try.f44.body.isSome = true := by kernel_rfl
theorem N44 : (Try.f44.name == "runtime.NumGoroutine") = false := by kernel_rfl
end Go.Proofs.Ytcmalbkflbfidaa
