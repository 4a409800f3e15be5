/-
  Facts off the tables of the program.
-/
import Derived.Test.YtdfkpdcpegcieaaGreatDoorProg
import Derived.Test.YtdfkpdcpegcieaaGreatDoorTab23
set_option linter.unusedSimpArgs false
set_option linter.unusedVariables false
namespace Go.Proofs.YtdfkpdcpegcieaaGreatDoor
open Go
theorem T90 : Tryz.f90.ntmps = 166 := by kernel_rfl
theorem B123 : Tryz.f123.body.isSome = true := by kernel_rfl
theorem N123 : (Tryz.f123.name == "runtime.NumGoroutine") = false := by kernel_rfl
theorem Bd287_0_1_2_6_7_8_9 (x0 : Option Addr) (x0n x0c : Nat) (x1 : Option Addr) (x1n x1c : Nat) (x2 : Option Addr) (x6 : Option Addr) (x6n x6c : Nat) (x7 : Option Addr) (x7n x7c : Nat) (x8 : Option Addr) (x8n x8c : Nat) (x9 : Option Addr) (x9n x9c : Nat) (w : World) : (Instr.build 287 [(0, .slice x0 x0n x0c), (1, .slice x1 x1n x1c), (2, .pointer x2), (6, .slice x6 x6n x6c), (7, .slice x7 x7n x7c), (8, .slice x8 x8n x8c), (9, .slice x9 x9n x9c)].toArray).run Tryz.prog w = .ok (.agg [.slice x0 x0n x0c, .slice x1 x1n x1c, .pointer x2, .pointer none, .pointer none, .slice none 0 0, .slice x6 x6n x6c, .slice x7 x7n x7c, .slice x8 x8n x8c, .slice x9 x9n x9c, .slice none 0 0].toArray) w := by kernel_rfl
theorem F287_3 (b o : Nat) (w : World) : (Instr.fieldAt 287 (.pointer (some ⟨b, o, none⟩)) 3).run Tryz.prog w = .ok (.pointer (some ⟨b, o + 3, none⟩)) w := by kernel_rfl
theorem I283 : Sv.TI Tryz.prog 283 (.pointer none) 1 8 := by unfold Sv.TI; kernel_rfl
theorem F287_4 (b o : Nat) (w : World) : (Instr.fieldAt 287 (.pointer (some ⟨b, o, none⟩)) 4).run Tryz.prog w = .ok (.pointer (some ⟨b, o + 4, none⟩)) w := by kernel_rfl
theorem I284 : Sv.TI Tryz.prog 284 (.pointer none) 1 8 := by unfold Sv.TI; kernel_rfl
theorem I176 : Sv.TI Tryz.prog 176 (.slice none 0 0) 1 24 := by unfold Sv.TI; kernel_rfl
end Go.Proofs.YtdfkpdcpegcieaaGreatDoor
