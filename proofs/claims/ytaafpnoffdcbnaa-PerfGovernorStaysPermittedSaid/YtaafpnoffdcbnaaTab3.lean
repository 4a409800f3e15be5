/-
  Facts off the tables of the program.
-/
import Derived.Test.YtaafpnoffdcbnaaProg
import Derived.Test.YtaafpnoffdcbnaaTab2
set_option linter.unusedSimpArgs false
set_option linter.unusedVariables false
namespace Go.Proofs.Ytaafpnoffdcbnaa
open Go
theorem T22 : Try.f22.ntmps = 51 := by kernel_rfl
theorem F40_0 (b o : Nat) (w : World) : (Instr.fieldAt 40 (.pointer (some ⟨b, o, none⟩)) 0).run Try.prog w = .ok (.pointer (some ⟨b, o, none⟩)) w := by kernel_rfl
theorem B35 : Try.f35.body.isSome = true := by kernel_rfl
theorem N35 : (Try.f35.name == "runtime.NumGoroutine") = false := by kernel_rfl
theorem T23 : Try.f23.ntmps = 83 := by kernel_rfl
theorem T13 : Try.f13.ntmps = 81 := by kernel_rfl
theorem Bd25_0_1 (x0 : Int) (x1 : Int) (w : World) : (Instr.build 25 [(0, .int .u64 x0), (1, .int .u64 x1)].toArray).run Try.prog w = .ok (.agg [.int .u64 x0, .int .u64 x1, .int .u64 0].toArray) w := by kernel_rfl
theorem Bs22_1_0 (x00 x01 x02 : Value) (w : World) : (Instr.buildSlice 22 1 [(0, .agg #[x00, x01, x02])].toArray).run Try.prog w = .ok (.slice (some ⟨w.heap.size, 0, none⟩) 1 1) (w.alloc (.cells [x00, x01, x02].toArray 25)) := by kernel_rfl
theorem Bd25_0_1_2 (x0 : Int) (x1 : Int) (x2 : Int) (w : World) : (Instr.build 25 [(0, .int .u64 x0), (1, .int .u64 x1), (2, .int .u64 x2)].toArray).run Try.prog w = .ok (.agg [.int .u64 x0, .int .u64 x1, .int .u64 x2].toArray) w := by kernel_rfl
theorem I23 : Sv.TI Try.prog 23 (.int .u64 0) 1 8 := by unfold Sv.TI; kernel_rfl
end Go.Proofs.Ytaafpnoffdcbnaa
