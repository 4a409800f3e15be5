/-
  Facts off the tables of the program.
-/
import Derived.Test.YtdfkpdcpegcieaaGreatDoorProg
import Derived.Test.YtdfkpdcpegcieaaGreatDoorTab20
set_option linter.unusedSimpArgs false
set_option linter.unusedVariables false
namespace Go.Proofs.YtdfkpdcpegcieaaGreatDoor
open Go
theorem T59 : Tryz.f59.ntmps = 16 := by kernel_rfl
theorem T27 : Tryz.f27.ntmps = 52 := by kernel_rfl
theorem B59 : Tryz.f59.body.isSome = true := by kernel_rfl
theorem N59 : (Tryz.f59.name == "runtime.NumGoroutine") = false := by kernel_rfl
theorem T67 : Tryz.f67.ntmps = 12 := by kernel_rfl
theorem T94 : Tryz.f94.ntmps = 21 := by kernel_rfl
theorem T95 : Tryz.f95.ntmps = 8 := by kernel_rfl
theorem T56 : Tryz.f56.ntmps = 16 := by kernel_rfl
theorem Bd231_0_1 (x0 : Option Addr) (x0n x0c : Nat) (x1 : Option Addr) (x1n x1c : Nat) (w : World) : (Instr.build 231 [(0, .slice x0 x0n x0c), (1, .slice x1 x1n x1c)].toArray).run Tryz.prog w = .ok (.agg [.slice x0 x0n x0c, .slice x1 x1n x1c, .int .u64 0, .bool false, .int .i64 0, .bool false, .int .i64 0, .int .u64 0].toArray) w := by kernel_rfl
theorem T57 : Tryz.f57.ntmps = 14 := by kernel_rfl
theorem Bd233_0 (x0 : Option Addr) (x0n x0c : Nat) (w : World) : (Instr.build 233 [(0, .slice x0 x0n x0c)].toArray).run Tryz.prog w = .ok (.agg [.slice x0 x0n x0c, .int .i64 0, .int .u64 0, .int .u64 0].toArray) w := by kernel_rfl
theorem T58 : Tryz.f58.ntmps = 12 := by kernel_rfl
theorem Bd236_0_1_2_4 (x0 : Option Addr) (x1 : Option Addr) (x2 : Option Addr) (x4 : Int) (w : World) : (Instr.build 236 [(0, .pointer x0), (1, .pointer x1), (2, .pointer x2), (4, .int .i64 x4)].toArray).run Tryz.prog w = .ok (.agg [.pointer x0, .pointer x1, .pointer x2, .pointer none, .int .i64 x4, .int .i64 0, .int .i64 0, .int .i64 0].toArray) w := by kernel_rfl
theorem T65 : Tryz.f65.ntmps = 24 := by kernel_rfl
theorem B94 : Tryz.f94.body.isSome = true := by kernel_rfl
theorem N94 : (Tryz.f94.name == "runtime.NumGoroutine") = false := by kernel_rfl
theorem B95 : Tryz.f95.body.isSome = true := by kernel_rfl
theorem N95 : (Tryz.f95.name == "runtime.NumGoroutine") = false := by kernel_rfl
end Go.Proofs.YtdfkpdcpegcieaaGreatDoor
