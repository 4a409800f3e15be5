/-
  Facts off the tables of the program.
-/
import Derived.Test.YtplmfekhdaefaaaDoorProg
import Derived.Test.YtplmfekhdaefaaaDoorTab32
set_option linter.unusedSimpArgs false
set_option linter.unusedVariables false
namespace Go.Proofs.YtplmfekhdaefaaaDoor
open Go
theorem T15 : Tryd.f15.ntmps = 9 := by kernel_rfl
theorem Ba101_28 (x0 : ByteArray) (x1 : ByteArray) (x2 : ByteArray) (x3 : ByteArray) (x4 : ByteArray) (x5 : ByteArray) (x6 : ByteArray) (x7 : ByteArray) (x8 : ByteArray) (x9 : ByteArray) (x10 : ByteArray) (x11 : ByteArray) (x12 : ByteArray) (x13 : ByteArray) (x14 : ByteArray) (x15 : ByteArray) (x16 : ByteArray) (x17 : ByteArray) (x18 : ByteArray) (x19 : ByteArray) (x20 : ByteArray) (x21 : ByteArray) (x22 : ByteArray) (x23 : ByteArray) (x24 : ByteArray) (x25 : ByteArray) (x26 : ByteArray) (x27 : ByteArray) (w : World) : (Instr.build 101 [(0, .string x0), (1, .string x1), (2, .string x2), (3, .string x3), (4, .string x4), (5, .string x5), (6, .string x6), (7, .string x7), (8, .string x8), (9, .string x9), (10, .string x10), (11, .string x11), (12, .string x12), (13, .string x13), (14, .string x14), (15, .string x15), (16, .string x16), (17, .string x17), (18, .string x18), (19, .string x19), (20, .string x20), (21, .string x21), (22, .string x22), (23, .string x23), (24, .string x24), (25, .string x25), (26, .string x26), (27, .string x27)].toArray).run Tryd.prog w = .ok (.agg [.string x0, .string x1, .string x2, .string x3, .string x4, .string x5, .string x6, .string x7, .string x8, .string x9, .string x10, .string x11, .string x12, .string x13, .string x14, .string x15, .string x16, .string x17, .string x18, .string x19, .string x20, .string x21, .string x22, .string x23, .string x24, .string x25, .string x26, .string x27].toArray) w := by kernel_rfl
theorem I101 : Sv.TI Tryd.prog 101 (.agg #[.string (Sv.bs []), .string (Sv.bs []), .string (Sv.bs []), .string (Sv.bs []), .string (Sv.bs []), .string (Sv.bs []), .string (Sv.bs []), .string (Sv.bs []), .string (Sv.bs []), .string (Sv.bs []), .string (Sv.bs []), .string (Sv.bs []), .string (Sv.bs []), .string (Sv.bs []), .string (Sv.bs []), .string (Sv.bs []), .string (Sv.bs []), .string (Sv.bs []), .string (Sv.bs []), .string (Sv.bs []), .string (Sv.bs []), .string (Sv.bs []), .string (Sv.bs []), .string (Sv.bs []), .string (Sv.bs []), .string (Sv.bs []), .string (Sv.bs []), .string (Sv.bs [])]) 28 448 := by unfold Sv.TI; kernel_rfl
theorem T4 : Tryd.f4.ntmps = 63 := by kernel_rfl
theorem Ba33_5 (x0 : ByteArray) (x1 : ByteArray) (x2 : ByteArray) (x3 : ByteArray) (x4 : ByteArray) (w : World) : (Instr.build 33 [(0, .string x0), (1, .string x1), (2, .string x2), (3, .string x3), (4, .string x4)].toArray).run Tryd.prog w = .ok (.agg [.string x0, .string x1, .string x2, .string x3, .string x4].toArray) w := by kernel_rfl
theorem I33 : Sv.TI Tryd.prog 33 (.agg #[.string (Sv.bs []), .string (Sv.bs []), .string (Sv.bs []), .string (Sv.bs []), .string (Sv.bs [])]) 5 80 := by unfold Sv.TI; kernel_rfl
theorem B15 : Tryd.f15.body.isSome = true := by kernel_rfl
theorem N15 : (Tryd.f15.name == "runtime.NumGoroutine") = false := by kernel_rfl
end Go.Proofs.YtplmfekhdaefaaaDoor
