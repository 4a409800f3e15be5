/-
  Facts off the tables of the program.
-/
import Derived.Test.YtdfkpdcpegcieaaGreatDoorProg
import Derived.Test.YtdfkpdcpegcieaaGreatDoorTab18
set_option linter.unusedSimpArgs false
set_option linter.unusedVariables false
namespace Go.Proofs.YtdfkpdcpegcieaaGreatDoor
open Go
theorem T44 : Tryz.f44.ntmps = 80 := by kernel_rfl
theorem F117_5 (b o : Nat) (w : World) : (Instr.fieldAt 117 (.pointer (some ⟨b, o, none⟩)) 5).run Tryz.prog w = .ok (.pointer (some ⟨b, o + 5, none⟩)) w := by kernel_rfl
theorem I114 : Sv.TI Tryz.prog 114 (.slice none 0 0) 1 24 := by unfold Sv.TI; kernel_rfl
theorem F117_6 (b o : Nat) (w : World) : (Instr.fieldAt 117 (.pointer (some ⟨b, o, none⟩)) 6).run Tryz.prog w = .ok (.pointer (some ⟨b, o + 6, none⟩)) w := by kernel_rfl
theorem I115 : Sv.TI Tryz.prog 115 (.slice none 0 0) 1 24 := by unfold Sv.TI; kernel_rfl
theorem F117_7 (b o : Nat) (w : World) : (Instr.fieldAt 117 (.pointer (some ⟨b, o, none⟩)) 7).run Tryz.prog w = .ok (.pointer (some ⟨b, o + 7, none⟩)) w := by kernel_rfl
theorem F117_0 (b o : Nat) (w : World) : (Instr.fieldAt 117 (.pointer (some ⟨b, o, none⟩)) 0).run Tryz.prog w = .ok (.pointer (some ⟨b, o, none⟩)) w := by kernel_rfl
theorem B40 : Tryz.f40.body.isSome = true := by kernel_rfl
theorem N40 : (Tryz.f40.name == "runtime.NumGoroutine") = false := by kernel_rfl
theorem B41 : Tryz.f41.body.isSome = true := by kernel_rfl
theorem N41 : (Tryz.f41.name == "runtime.NumGoroutine") = false := by kernel_rfl
theorem Bs114_1_0 (x0 : Option Addr) (w : World) : (Instr.buildSlice 114 1 [(0, .pointer x0)].toArray).run Tryz.prog w = .ok (.slice (some ⟨w.heap.size, 0, none⟩) 1 1) (w.alloc (.cells [.pointer x0].toArray 118)) := by kernel_rfl
theorem I118 : Sv.TI Tryz.prog 118 (.pointer none) 1 8 := by unfold Sv.TI; kernel_rfl
theorem Bs115_1_0 (x0 : Option Addr) (w : World) : (Instr.buildSlice 115 1 [(0, .pointer x0)].toArray).run Tryz.prog w = .ok (.slice (some ⟨w.heap.size, 0, none⟩) 1 1) (w.alloc (.cells [.pointer x0].toArray 121)) := by kernel_rfl
theorem I121 : Sv.TI Tryz.prog 121 (.pointer none) 1 8 := by unfold Sv.TI; kernel_rfl
theorem Bs48_1_0 (x0 : Int) (w : World) : (Instr.buildSlice 48 1 [(0, .int .i64 x0)].toArray).run Tryz.prog w = .ok (.slice (some ⟨w.heap.size, 0, none⟩) 1 1) (w.alloc (.cells [.int .i64 x0].toArray 3)) := by kernel_rfl
theorem T12 : Tryz.f12.ntmps = 119 := by kernel_rfl
theorem Bd117_0_1_2_3_8_9 (x0 : Option Addr) (x0n x0c : Nat) (x1 : Int) (x2 : Int) (x3 : Int) (x8 : Option Addr) (x8n x8c : Nat) (x9 : Option Addr) (x9n x9c : Nat) (w : World) : (Instr.build 117 [(0, .slice x0 x0n x0c), (1, .int .i64 x1), (2, .int .i64 x2), (3, .int .u64 x3), (8, .slice x8 x8n x8c), (9, .slice x9 x9n x9c)].toArray).run Tryz.prog w = .ok (.agg [.slice x0 x0n x0c, .int .i64 x1, .int .i64 x2, .int .u64 x3, .pointer none, .slice none 0 0, .slice none 0 0, .slice none 0 0, .slice x8 x8n x8c, .slice x9 x9n x9c].toArray) w := by kernel_rfl
theorem B42 : Tryz.f42.body.isSome = true := by kernel_rfl
theorem N42 : (Tryz.f42.name == "runtime.NumGoroutine") = false := by kernel_rfl
theorem F117_4 (b o : Nat) (w : World) : (Instr.fieldAt 117 (.pointer (some ⟨b, o, none⟩)) 4).run Tryz.prog w = .ok (.pointer (some ⟨b, o + 4, none⟩)) w := by kernel_rfl
theorem I113 : Sv.TI Tryz.prog 113 (.pointer none) 1 8 := by unfold Sv.TI; kernel_rfl
theorem B44 : Tryz.f44.body.isSome = true := by kernel_rfl
theorem N44 : (Tryz.f44.name == "runtime.NumGoroutine") = false := by kernel_rfl
end Go.Proofs.YtdfkpdcpegcieaaGreatDoor
