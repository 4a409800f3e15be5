/-
  Facts off the tables of the program.
-/
import Derived.Test.YtaafpnoffdcbnaaProg
import Derived.Test.YtaafpnoffdcbnaaTab3
set_option linter.unusedSimpArgs false
set_option linter.unusedVariables false
namespace Go.Proofs.Ytaafpnoffdcbnaa
open Go
theorem T12 : Try.f12.ntmps = 63 := by kernel_rfl
theorem Bs22_2_0_1 (x00 x01 x02 : Value) (x10 x11 x12 : Value) (w : World) : (Instr.buildSlice 22 2 [(0, .agg #[x00, x01, x02]), (1, .agg #[x10, x11, x12])].toArray).run Try.prog w = .ok (.slice (some ⟨w.heap.size, 0, none⟩) 2 2) (w.alloc (.cells [x00, x01, x02, x10, x11, x12].toArray 25)) := by kernel_rfl
theorem B19 : Try.f19.body.isSome = true := by kernel_rfl
theorem N19 : (Try.f19.name == "runtime.NumGoroutine") = false := by kernel_rfl
theorem B15 : Try.f15.body.isSome = true := by kernel_rfl
theorem N15 : (Try.f15.name == "runtime.NumGoroutine") = false := by kernel_rfl
theorem B21 : Try.f21.body.isSome = true := by kernel_rfl
theorem N21 : (Try.f21.name == "runtime.NumGoroutine") = false := by kernel_rfl
theorem B22 : Try.f22.body.isSome = true := by kernel_rfl
theorem N22 : (Try.f22.name == "runtime.NumGoroutine") = false := by kernel_rfl
end Go.Proofs.Ytaafpnoffdcbnaa
