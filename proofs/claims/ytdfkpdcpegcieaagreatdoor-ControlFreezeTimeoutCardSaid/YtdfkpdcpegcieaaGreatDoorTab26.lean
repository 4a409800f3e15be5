/-
  Facts off the tables of the program.
-/
import Derived.Test.YtdfkpdcpegcieaaGreatDoorProg
import Derived.Test.YtdfkpdcpegcieaaGreatDoorTab25
set_option linter.unusedSimpArgs false
set_option linter.unusedVariables false
namespace Go.Proofs.YtdfkpdcpegcieaaGreatDoor
open Go
theorem I80 : Sv.TI Tryz.prog 80 (.agg #[.pointer none, .pointer none, .pointer none, .pointer none, .int .i64 0, .pointer none, .pointer none, .pointer none, .pointer none, .pointer none, .pointer none]) 11 88 := by unfold Sv.TI; kernel_rfl
theorem T26 : Tryz.f26.ntmps = 77 := by kernel_rfl
theorem I87 : Sv.TI Tryz.prog 87 (.agg #[.slice none 0 0, .slice none 0 0, .slice none 0 0]) 3 72 := by unfold Sv.TI; kernel_rfl
theorem B55 : Tryz.f55.body.isSome = true := by kernel_rfl
theorem N55 : (Tryz.f55.name == "runtime.NumGoroutine") = false := by kernel_rfl
theorem B56 : Tryz.f56.body.isSome = true := by kernel_rfl
theorem N56 : (Tryz.f56.name == "runtime.NumGoroutine") = false := by kernel_rfl
theorem B57 : Tryz.f57.body.isSome = true := by kernel_rfl
theorem N57 : (Tryz.f57.name == "runtime.NumGoroutine") = false := by kernel_rfl
theorem Bd80_0_2_3_5_6 (x00 x01 x02 x03 x04 : Value) (x2 : Option Addr) (x3 : Option Addr) (x5 : Option Addr) (x6 : Option Addr) (w : World) : (Instr.build 80 [(0, .agg #[x00, x01, x02, x03, x04]), (2, .pointer x2), (3, .pointer x3), (5, .pointer x5), (6, .pointer x6)].toArray).run Tryz.prog w = .ok (.agg [x00, x01, x02, x03, x04, .pointer none, .pointer x2, .pointer x3, .pointer none, .pointer x5, .pointer x6].toArray) w := by kernel_rfl
theorem F80_1 (b o : Nat) (w : World) : (Instr.fieldAt 80 (.pointer (some ⟨b, o, none⟩)) 1).run Tryz.prog w = .ok (.pointer (some ⟨b, o + 5, none⟩)) w := by kernel_rfl
theorem B58 : Tryz.f58.body.isSome = true := by kernel_rfl
theorem N58 : (Tryz.f58.name == "runtime.NumGoroutine") = false := by kernel_rfl
theorem I73 : Sv.TI Tryz.prog 73 (.pointer none) 1 8 := by unfold Sv.TI; kernel_rfl
theorem F80_4 (b o : Nat) (w : World) : (Instr.fieldAt 80 (.pointer (some ⟨b, o, none⟩)) 4).run Tryz.prog w = .ok (.pointer (some ⟨b, o + 8, none⟩)) w := by kernel_rfl
theorem I76 : Sv.TI Tryz.prog 76 (.pointer none) 1 8 := by unfold Sv.TI; kernel_rfl
end Go.Proofs.YtdfkpdcpegcieaaGreatDoor
