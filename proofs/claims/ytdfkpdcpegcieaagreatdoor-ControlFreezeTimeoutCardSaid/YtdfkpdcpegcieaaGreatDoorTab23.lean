/-
  Facts off the tables of the program.
-/
import Derived.Test.YtdfkpdcpegcieaaGreatDoorProg
import Derived.Test.YtdfkpdcpegcieaaGreatDoorTab22
set_option linter.unusedSimpArgs false
set_option linter.unusedVariables false
namespace Go.Proofs.YtdfkpdcpegcieaaGreatDoor
open Go
theorem T149 : Tryz.f149.ntmps = 16 := by kernel_rfl
theorem T197 : Tryz.f197.ntmps = 55 := by kernel_rfl
theorem T183 : Tryz.f183.ntmps = 30 := by kernel_rfl
theorem B197 : Tryz.f197.body.isSome = true := by kernel_rfl
theorem N197 : (Tryz.f197.name == "runtime.NumGoroutine") = false := by kernel_rfl
theorem T184 : Tryz.f184.ntmps = 80 := by kernel_rfl
theorem I202 : Sv.TI Tryz.prog 202 (.slice none 0 0) 1 24 := by unfold Sv.TI; kernel_rfl
theorem T161 : Tryz.f161.ntmps = 29 := by kernel_rfl
theorem B183 : Tryz.f183.body.isSome = true := by kernel_rfl
theorem N183 : (Tryz.f183.name == "runtime.NumGoroutine") = false := by kernel_rfl
theorem B184 : Tryz.f184.body.isSome = true := by kernel_rfl
theorem N184 : (Tryz.f184.name == "runtime.NumGoroutine") = false := by kernel_rfl
theorem T159 : Tryz.f159.ntmps = 31 := by kernel_rfl
theorem T160 : Tryz.f160.ntmps = 84 := by kernel_rfl
theorem Bs84_0_  (w : World) : (Instr.buildSlice 84 0 [].toArray).run Tryz.prog w = .ok (.slice (some ⟨w.heap.size, 0, none⟩) 0 0) (w.alloc (.cells [].toArray 364)) := by kernel_rfl
theorem I364 : Sv.TI Tryz.prog 364 (.agg #[.int .i64 0, .int .u64 0, .int .u64 0]) 3 24 := by unfold Sv.TI; kernel_rfl
theorem Bd385_0_1_2 (x0 : Option Addr) (x0n x0c : Nat) (x1 : Option Addr) (x1n x1c : Nat) (x2 : Option Addr) (x2n x2c : Nat) (w : World) : (Instr.build 385 [(0, .slice x0 x0n x0c), (1, .slice x1 x1n x1c), (2, .slice x2 x2n x2c)].toArray).run Tryz.prog w = .ok (.agg [.slice x0 x0n x0c, .slice x1 x1n x1c, .slice x2 x2n x2c, .int .u64 0].toArray) w := by kernel_rfl
theorem T129 : Tryz.f129.ntmps = 46 := by kernel_rfl
theorem B159 : Tryz.f159.body.isSome = true := by kernel_rfl
theorem N159 : (Tryz.f159.name == "runtime.NumGoroutine") = false := by kernel_rfl
theorem B160 : Tryz.f160.body.isSome = true := by kernel_rfl
theorem N160 : (Tryz.f160.name == "runtime.NumGoroutine") = false := by kernel_rfl
theorem Bd353_0_1 (x0 : Option Addr) (x0n x0c : Nat) (x1 : Option Addr) (w : World) : (Instr.build 353 [(0, .slice x0 x0n x0c), (1, .pointer x1)].toArray).run Tryz.prog w = .ok (.agg [.slice x0 x0n x0c, .pointer x1, .slice none 0 0, .int .u64 0].toArray) w := by kernel_rfl
theorem T130 : Tryz.f130.ntmps = 116 := by kernel_rfl
theorem Bd355_0_2_3_4 (x0 : Option Addr) (x0n x0c : Nat) (x2 : Option Addr) (x2n x2c : Nat) (x3 : Option Addr) (x3n x3c : Nat) (x4 : Option Addr) (x4n x4c : Nat) (w : World) : (Instr.build 355 [(0, .slice x0 x0n x0c), (2, .slice x2 x2n x2c), (3, .slice x3 x3n x3c), (4, .slice x4 x4n x4c)].toArray).run Tryz.prog w = .ok (.agg [.slice x0 x0n x0c, .slice none 0 0, .slice x2 x2n x2c, .slice x3 x3n x3c, .slice x4 x4n x4c, .int .u64 0].toArray) w := by kernel_rfl
theorem F355_1 (b o : Nat) (w : World) : (Instr.fieldAt 355 (.pointer (some ⟨b, o, none⟩)) 1).run Tryz.prog w = .ok (.pointer (some ⟨b, o + 1, none⟩)) w := by kernel_rfl
theorem B161 : Tryz.f161.body.isSome = true := by kernel_rfl
theorem N161 : (Tryz.f161.name == "runtime.NumGoroutine") = false := by kernel_rfl
theorem T123 : Tryz.f123.ntmps = 133 := by kernel_rfl
theorem B149 : Tryz.f149.body.isSome = true := by kernel_rfl
theorem N149 : (Tryz.f149.name == "runtime.NumGoroutine") = false := by kernel_rfl
theorem B129 : Tryz.f129.body.isSome = true := by kernel_rfl
theorem N129 : (Tryz.f129.name == "runtime.NumGoroutine") = false := by kernel_rfl
theorem B130 : Tryz.f130.body.isSome = true := by kernel_rfl
theorem N130 : (Tryz.f130.name == "runtime.NumGoroutine") = false := by kernel_rfl
end Go.Proofs.YtdfkpdcpegcieaaGreatDoor
