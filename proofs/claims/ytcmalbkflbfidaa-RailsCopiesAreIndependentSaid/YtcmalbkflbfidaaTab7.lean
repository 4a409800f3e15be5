/-
  Facts off the tables of the program.
-/
import Derived.Test.YtcmalbkflbfidaaProg
import Derived.Test.YtcmalbkflbfidaaTab6
set_option linter.unusedSimpArgs false
set_option linter.unusedVariables false
namespace Go.Proofs.Ytcmalbkflbfidaa
open Go
theorem T12 : Try.f12.ntmps = 63 := by kernel_rfl
theorem Bd35_1_2 (x1 : Int) (x2 : Int) (w : World) : (Instr.build 35 [(1, .int .u64 x1), (2, .int .u64 x2)].toArray).run Try.prog w = .ok (.agg [.int .i64 0, .int .u64 x1, .int .u64 x2].toArray) w := by kernel_rfl
theorem Bs22_2_0_1 (x00 x01 x02 : Value) (x10 x11 x12 : Value) (w : World) : (Instr.buildSlice 22 2 [(0, .agg #[x00, x01, x02]), (1, .agg #[x10, x11, x12])].toArray).run Try.prog w = .ok (.slice (some ⟨w.heap.size, 0, none⟩) 2 2) (w.alloc (.cells [x00, x01, x02, x10, x11, x12].toArray 35)) := by kernel_rfl
theorem B13 : Try.f13.body.isSome = true := by kernel_rfl
theorem N13 : (Try.f13.name == "runtime.NumGoroutine") = false := by kernel_rfl
theorem B22 : Try.f22.body.isSome = true := by kernel_rfl
theorem N22 : (Try.f22.name == "runtime.NumGoroutine") = false := by kernel_rfl
theorem Bs38_2_0_1 (x00 x01 x02 x03 : Value) (x10 x11 x12 x13 : Value) (w : World) : (Instr.buildSlice 38 2 [(0, .agg #[x00, x01, x02, x03]), (1, .agg #[x10, x11, x12, x13])].toArray).run Try.prog w = .ok (.slice (some ⟨w.heap.size, 0, none⟩) 2 2) (w.alloc (.cells [x00, x01, x02, x03, x10, x11, x12, x13].toArray 45)) := by kernel_rfl
theorem B24 : Try.f24.body.isSome = true := by kernel_rfl
theorem N24 : (Try.f24.name == "runtime.NumGoroutine") = false := by kernel_rfl
end Go.Proofs.Ytcmalbkflbfidaa
