/-
  Facts off the tables of the program.
-/
import Derived.Test.YtplmfekhdaefaaaDoorProg
import Derived.Test.YtplmfekhdaefaaaDoorTab26
set_option linter.unusedSimpArgs false
set_option linter.unusedVariables false
namespace Go.Proofs.YtplmfekhdaefaaaDoor
open Go
theorem T82 : Tryd.f82.ntmps = 51 := by kernel_rfl
theorem I129 : Sv.TI Tryd.prog 129 (.agg #[.int .u8 0, .string (Sv.bs []), .int .u64 0]) 3 32 := by unfold Sv.TI; kernel_rfl
theorem T64 : Tryd.f64.ntmps = 18 := by kernel_rfl
theorem B82 : Tryd.f82.body.isSome = true := by kernel_rfl
theorem N82 : (Tryd.f82.name == "runtime.NumGoroutine") = false := by kernel_rfl
theorem Bd129_0_2 (x0 : Int) (x2 : Int) (w : World) : (Instr.build 129 [(0, .int .u8 x0), (2, .int .u64 x2)].toArray).run Tryd.prog w = .ok (.agg [.int .u8 x0, .string (Sv.bs []), .int .u64 x2].toArray) w := by kernel_rfl
theorem Bd129_0_1 (x0 : Int) (x1 : ByteArray) (w : World) : (Instr.build 129 [(0, .int .u8 x0), (1, .string x1)].toArray).run Tryd.prog w = .ok (.agg [.int .u8 x0, .string x1, .int .u64 0].toArray) w := by kernel_rfl
theorem T39 : Tryd.f39.ntmps = 109 := by kernel_rfl
theorem B63 : Tryd.f63.body.isSome = true := by kernel_rfl
theorem N63 : (Tryd.f63.name == "runtime.NumGoroutine") = false := by kernel_rfl
theorem B64 : Tryd.f64.body.isSome = true := by kernel_rfl
theorem N64 : (Tryd.f64.name == "runtime.NumGoroutine") = false := by kernel_rfl
theorem Bs90_1_0 (x00 x01 x02 : Value) (w : World) : (Instr.buildSlice 90 1 [(0, .agg #[x00, x01, x02])].toArray).run Tryd.prog w = .ok (.slice (some ⟨w.heap.size, 0, none⟩) 1 1) (w.alloc (.cells [x00, x01, x02].toArray 129)) := by kernel_rfl
theorem Bd129_0 (x0 : Int) (w : World) : (Instr.build 129 [(0, .int .u8 x0)].toArray).run Tryd.prog w = .ok (.agg [.int .u8 x0, .string (Sv.bs []), .int .u64 0].toArray) w := by kernel_rfl
end Go.Proofs.YtplmfekhdaefaaaDoor
