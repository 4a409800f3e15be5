/-
  Facts off the tables of the program.
-/
import Derived.Test.YtdfkpdcpegcieaaGreatDoorProg
import Derived.Test.YtdfkpdcpegcieaaGreatDoorTabB
set_option linter.unusedSimpArgs false
set_option linter.unusedVariables false
namespace Go.Proofs.YtdfkpdcpegcieaaGreatDoor
open Go
theorem T81 : Tryz.f81.ntmps = 46 := by kernel_rfl
theorem T41 : Tryz.f41.ntmps = 25 := by kernel_rfl
theorem B81 : Tryz.f81.body.isSome = true := by kernel_rfl
theorem N81 : (Tryz.f81.name == "runtime.NumGoroutine") = false := by kernel_rfl
theorem Bd204_0_1_2 (x0 : Option Addr) (x0n x0c : Nat) (x1 : Option Addr) (x1n x1c : Nat) (x2 : Int) (w : World) : (Instr.build 204 [(0, .slice x0 x0n x0c), (1, .slice x1 x1n x1c), (2, .int .i64 x2)].toArray).run Tryz.prog w = .ok (.agg [.slice x0 x0n x0c, .slice x1 x1n x1c, .int .i64 x2, .int .i64 0].toArray) w := by kernel_rfl
theorem T82 : Tryz.f82.ntmps = 196 := by kernel_rfl
theorem T43 : Tryz.f43.ntmps = 43 := by kernel_rfl
theorem B82 : Tryz.f82.body.isSome = true := by kernel_rfl
theorem N82 : (Tryz.f82.name == "runtime.NumGoroutine") = false := by kernel_rfl
theorem Bd206_0_1_2 (x0 : Option Addr) (x0n x0c : Nat) (x1 : Option Addr) (x1n x1c : Nat) (x2 : Int) (w : World) : (Instr.build 206 [(0, .slice x0 x0n x0c), (1, .slice x1 x1n x1c), (2, .int .i64 x2)].toArray).run Tryz.prog w = .ok (.agg [.slice x0 x0n x0c, .slice x1 x1n x1c, .int .i64 x2, .slice none 0 0, .int .i64 0].toArray) w := by kernel_rfl
theorem F206_3 (b o : Nat) (w : World) : (Instr.fieldAt 206 (.pointer (some ⟨b, o, none⟩)) 3).run Tryz.prog w = .ok (.pointer (some ⟨b, o + 3, none⟩)) w := by kernel_rfl
theorem I56 : Sv.TI Tryz.prog 56 (.slice none 0 0) 1 24 := by unfold Sv.TI; kernel_rfl
theorem T42 : Tryz.f42.ntmps = 33 := by kernel_rfl
theorem B43 : Tryz.f43.body.isSome = true := by kernel_rfl
theorem N43 : (Tryz.f43.name == "runtime.NumGoroutine") = false := by kernel_rfl
end Go.Proofs.YtdfkpdcpegcieaaGreatDoor
