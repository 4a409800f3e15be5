/-
  Texts joined: Tab1, Tab2, Tab3, Tab4, Tab5, Tab6, Tab7, Tab8, Tab9, Tab10, Tab11, Tab12, Tab13.
-/
import Derived.Test.YtdfkpdcpegcieaaGreatDoorProg
import Derived.Test.YtdfkpdcpegcieaaGreatDoorSvC
set_option linter.unusedSimpArgs false
set_option linter.unusedVariables false
namespace Go.Proofs.YtdfkpdcpegcieaaGreatDoor
open Go
theorem T14 : Tryz.f14.ntmps = 11 := by kernel_rfl
theorem T121 : Tryz.f121.ntmps = 66 := by kernel_rfl
theorem I61 : Sv.TI Tryz.prog 61 (.agg #[.int .u64 0, .int .u64 0, .int .u64 0]) 3 24 := by unfold Sv.TI; kernel_rfl
theorem F61_0 (b o : Nat) (w : World) : (Instr.fieldAt 61 (.pointer (some ⟨b, o, none⟩)) 0).run Tryz.prog w = .ok (.pointer (some ⟨b, o, none⟩)) w := by kernel_rfl
theorem F61_1 (b o : Nat) (w : World) : (Instr.fieldAt 61 (.pointer (some ⟨b, o, none⟩)) 1).run Tryz.prog w = .ok (.pointer (some ⟨b, o + 1, none⟩)) w := by kernel_rfl
theorem F61_2 (b o : Nat) (w : World) : (Instr.fieldAt 61 (.pointer (some ⟨b, o, none⟩)) 2).run Tryz.prog w = .ok (.pointer (some ⟨b, o + 2, none⟩)) w := by kernel_rfl
theorem T80 : Tryz.f80.ntmps = 76 := by kernel_rfl
theorem T75 : Tryz.f75.ntmps = 8 := by kernel_rfl
theorem Bs42_0_  (w : World) : (Instr.buildSlice 42 0 [].toArray).run Tryz.prog w = .ok (.slice (some ⟨w.heap.size, 0, none⟩) 0 0) (w.alloc (.cells [].toArray 61)) := by kernel_rfl
theorem T76 : Tryz.f76.ntmps = 8 := by kernel_rfl
theorem Bs43_0_  (w : World) : (Instr.buildSlice 43 0 [].toArray).run Tryz.prog w = .ok (.slice (some ⟨w.heap.size, 0, none⟩) 0 0) (w.alloc (.cells [].toArray 190)) := by kernel_rfl
theorem I190 : Sv.TI Tryz.prog 190 (.agg #[.int .i64 0, .int .i64 0, .int .i64 0]) 3 24 := by unfold Sv.TI; kernel_rfl
theorem T78 : Tryz.f78.ntmps = 8 := by kernel_rfl
theorem Bs104_0_  (w : World) : (Instr.buildSlice 104 0 [].toArray).run Tryz.prog w = .ok (.slice (some ⟨w.heap.size, 0, none⟩) 0 0) (w.alloc (.cells [].toArray 41)) := by kernel_rfl
theorem I41 : Sv.TI Tryz.prog 41 (.agg #[.int .i64 0, .int .i64 0]) 2 16 := by unfold Sv.TI; kernel_rfl
theorem T79 : Tryz.f79.ntmps = 8 := by kernel_rfl
theorem Bs23_0_  (w : World) : (Instr.buildSlice 23 0 [].toArray).run Tryz.prog w = .ok (.slice (some ⟨w.heap.size, 0, none⟩) 0 0) (w.alloc (.cells [].toArray 195)) := by kernel_rfl
theorem I195 : Sv.TI Tryz.prog 195 (.agg #[.int .i64 0, .int .i64 0, .int .i64 0]) 3 24 := by unfold Sv.TI; kernel_rfl
theorem T51 : Tryz.f51.ntmps = 8 := by kernel_rfl
theorem Bs56_0_  (w : World) : (Instr.buildSlice 56 0 [].toArray).run Tryz.prog w = .ok (.slice (some ⟨w.heap.size, 0, none⟩) 0 0) (w.alloc (.cells [].toArray 2)) := by kernel_rfl
theorem I2 : Sv.TI Tryz.prog 2 (.int .i64 0) 1 8 := by unfold Sv.TI; kernel_rfl
theorem T88 : Tryz.f88.ntmps = 50 := by kernel_rfl
theorem B121 : Tryz.f121.body.isSome = true := by kernel_rfl
theorem N121 : (Tryz.f121.name == "runtime.NumGoroutine") = false := by kernel_rfl
theorem F39_0 (b o : Nat) (w : World) : (Instr.fieldAt 39 (.pointer (some ⟨b, o, none⟩)) 0).run Tryz.prog w = .ok (.pointer (some ⟨b, o, none⟩)) w := by kernel_rfl
theorem F39_1 (b o : Nat) (w : World) : (Instr.fieldAt 39 (.pointer (some ⟨b, o, none⟩)) 1).run Tryz.prog w = .ok (.pointer (some ⟨b, o + 1, none⟩)) w := by kernel_rfl
theorem F39_2 (b o : Nat) (w : World) : (Instr.fieldAt 39 (.pointer (some ⟨b, o, none⟩)) 2).run Tryz.prog w = .ok (.pointer (some ⟨b, o + 2, none⟩)) w := by kernel_rfl
theorem I39 : Sv.TI Tryz.prog 39 (.agg #[.int .i64 0, .int .i64 0, .int .i64 0]) 3 24 := by unfold Sv.TI; kernel_rfl
theorem B75 : Tryz.f75.body.isSome = true := by kernel_rfl
theorem N75 : (Tryz.f75.name == "runtime.NumGoroutine") = false := by kernel_rfl
theorem Bd223_0_1_3 (x0 : Option Addr) (x0n x0c : Nat) (x10 x11 x12 : Value) (x3 : Int) (w : World) : (Instr.build 223 [(0, .slice x0 x0n x0c), (1, .agg #[x10, x11, x12]), (3, .int .i64 x3)].toArray).run Tryz.prog w = .ok (.agg [.slice x0 x0n x0c, x10, x11, x12, .int .i64 0, .int .i64 x3, .int .i64 0, .int .i64 0].toArray) w := by kernel_rfl
theorem T40 : Tryz.f40.ntmps = 51 := by kernel_rfl
theorem B80 : Tryz.f80.body.isSome = true := by kernel_rfl
theorem N80 : (Tryz.f80.name == "runtime.NumGoroutine") = false := by kernel_rfl
theorem Bd200_0_1_3 (x0 : Option Addr) (x0n x0c : Nat) (x10 x11 x12 : Value) (x3 : Int) (w : World) : (Instr.build 200 [(0, .slice x0 x0n x0c), (1, .agg #[x10, x11, x12]), (3, .int .i64 x3)].toArray).run Tryz.prog w = .ok (.agg [.slice x0 x0n x0c, x10, x11, x12, .int .i64 0, .int .i64 x3, .int .i64 0, .int .i64 0].toArray) w := by kernel_rfl
theorem T54 : Tryz.f54.ntmps = 7 := by kernel_rfl
theorem F223_4 (b o : Nat) (w : World) : (Instr.fieldAt 223 (.pointer (some ⟨b, o, none⟩)) 4).run Tryz.prog w = .ok (.pointer (some ⟨b, o + 6, none⟩)) w := by kernel_rfl
theorem T114 : Tryz.f114.ntmps = 45 := by kernel_rfl
theorem F223_0 (b o : Nat) (w : World) : (Instr.fieldAt 223 (.pointer (some ⟨b, o, none⟩)) 0).run Tryz.prog w = .ok (.pointer (some ⟨b, o, none⟩)) w := by kernel_rfl
theorem F223_2 (b o : Nat) (w : World) : (Instr.fieldAt 223 (.pointer (some ⟨b, o, none⟩)) 2).run Tryz.prog w = .ok (.pointer (some ⟨b, o + 4, none⟩)) w := by kernel_rfl
theorem I3 : Sv.TI Tryz.prog 3 (.int .i64 0) 1 8 := by unfold Sv.TI; kernel_rfl
theorem F223_3 (b o : Nat) (w : World) : (Instr.fieldAt 223 (.pointer (some ⟨b, o, none⟩)) 3).run Tryz.prog w = .ok (.pointer (some ⟨b, o + 5, none⟩)) w := by kernel_rfl
theorem F223_5 (b o : Nat) (w : World) : (Instr.fieldAt 223 (.pointer (some ⟨b, o, none⟩)) 5).run Tryz.prog w = .ok (.pointer (some ⟨b, o + 7, none⟩)) w := by kernel_rfl
theorem T148 : Tryz.f148.ntmps = 55 := by kernel_rfl
theorem F223_1 (b o : Nat) (w : World) : (Instr.fieldAt 223 (.pointer (some ⟨b, o, none⟩)) 1).run Tryz.prog w = .ok (.pointer (some ⟨b, o + 1, none⟩)) w := by kernel_rfl
theorem T115 : Tryz.f115.ntmps = 71 := by kernel_rfl
theorem B148 : Tryz.f148.body.isSome = true := by kernel_rfl
theorem N148 : (Tryz.f148.name == "runtime.NumGoroutine") = false := by kernel_rfl
end Go.Proofs.YtdfkpdcpegcieaaGreatDoor
set_option linter.unusedSimpArgs false
set_option linter.unusedVariables false
namespace Go.Proofs.YtdfkpdcpegcieaaGreatDoor
open Go
theorem T77 : Tryz.f77.ntmps = 158 := by kernel_rfl
theorem F41_1 (b o : Nat) (w : World) : (Instr.fieldAt 41 (.pointer (some ⟨b, o, none⟩)) 1).run Tryz.prog w = .ok (.pointer (some ⟨b, o + 1, none⟩)) w := by kernel_rfl
theorem I273 : Sv.TI Tryz.prog 273 (.agg #[.bool false, .bool false, .bool false, .bool false, .bool false, .bool false, .bool false, .bool false, .bool false, .bool false, .bool false, .bool false, .bool false, .bool false, .bool false, .bool false, .bool false, .bool false, .bool false, .bool false, .bool false, .bool false, .bool false, .bool false, .bool false, .bool false, .bool false, .bool false, .bool false, .bool false, .bool false, .bool false, .bool false, .bool false, .bool false, .bool false, .bool false, .bool false, .bool false, .bool false, .bool false, .bool false, .bool false, .bool false, .bool false, .bool false, .bool false, .bool false, .bool false, .bool false, .bool false, .bool false, .bool false, .bool false, .bool false, .bool false, .bool false, .bool false, .bool false, .bool false, .bool false, .bool false, .bool false, .bool false, .bool false, .bool false, .bool false, .bool false, .bool false, .bool false, .bool false, .bool false, .bool false, .bool false, .bool false, .bool false, .bool false, .bool false, .bool false, .bool false, .bool false, .bool false, .bool false, .bool false, .bool false, .bool false, .bool false, .bool false, .bool false, .bool false, .bool false, .bool false, .bool false, .bool false, .bool false, .bool false, .bool false, .bool false, .bool false, .bool false, .bool false, .bool false, .bool false, .bool false, .bool false, .bool false, .bool false, .bool false, .bool false, .bool false, .bool false, .bool false, .bool false, .bool false, .bool false, .bool false, .bool false, .bool false, .bool false, .bool false, .bool false, .bool false, .bool false, .bool false, .bool false, .bool false, .bool false, .bool false, .bool false, .bool false, .bool false, .bool false, .bool false, .bool false, .bool false, .bool false, .bool false, .bool false, .bool false, .bool false, .bool false, .bool false, .bool false, .bool false, .bool false, .bool false, .bool false, .bool false, .bool false, .bool false, .bool false, .bool false, .bool false, .bool false, .bool false, .bool false, .bool false, .bool false, .bool false, .bool false, .bool false, .bool false, .bool false, .bool false, .bool false, .bool false, .bool false, .bool false, .bool false, .bool false, .bool false, .bool false, .bool false, .bool false, .bool false, .bool false, .bool false, .bool false, .bool false, .bool false, .bool false, .bool false, .bool false, .bool false, .bool false, .bool false, .bool false, .bool false, .bool false, .bool false, .bool false, .bool false, .bool false, .bool false, .bool false, .bool false, .bool false, .bool false, .bool false, .bool false, .bool false, .bool false, .bool false, .bool false, .bool false, .bool false, .bool false, .bool false, .bool false, .bool false, .bool false, .bool false, .bool false, .bool false, .bool false, .bool false, .bool false, .bool false, .bool false, .bool false, .bool false, .bool false, .bool false, .bool false, .bool false, .bool false, .bool false, .bool false, .bool false, .bool false, .bool false, .bool false, .bool false, .bool false, .bool false, .bool false, .bool false, .bool false, .bool false, .bool false, .bool false, .bool false, .bool false, .bool false, .bool false, .bool false, .bool false, .bool false, .bool false, .bool false, .bool false, .bool false, .bool false, .bool false, .bool false, .bool false]) 256 256 := by unfold Sv.TI; kernel_rfl
theorem F195_0 (b o : Nat) (w : World) : (Instr.fieldAt 195 (.pointer (some ⟨b, o, none⟩)) 0).run Tryz.prog w = .ok (.pointer (some ⟨b, o, none⟩)) w := by kernel_rfl
theorem F195_1 (b o : Nat) (w : World) : (Instr.fieldAt 195 (.pointer (some ⟨b, o, none⟩)) 1).run Tryz.prog w = .ok (.pointer (some ⟨b, o + 1, none⟩)) w := by kernel_rfl
theorem F195_2 (b o : Nat) (w : World) : (Instr.fieldAt 195 (.pointer (some ⟨b, o, none⟩)) 2).run Tryz.prog w = .ok (.pointer (some ⟨b, o + 2, none⟩)) w := by kernel_rfl
theorem I272 : Sv.TI Tryz.prog 272 (.agg #[.bool false, .bool false, .bool false, .bool false, .bool false, .bool false, .bool false, .bool false, .bool false, .bool false, .bool false, .bool false, .bool false, .bool false, .bool false, .bool false]) 16 16 := by unfold Sv.TI; kernel_rfl
theorem I4 : Sv.TI Tryz.prog 4 (.bool false) 1 1 := by unfold Sv.TI; kernel_rfl
theorem F41_0 (b o : Nat) (w : World) : (Instr.fieldAt 41 (.pointer (some ⟨b, o, none⟩)) 0).run Tryz.prog w = .ok (.pointer (some ⟨b, o, none⟩)) w := by kernel_rfl
theorem T39 : Tryz.f39.ntmps = 45 := by kernel_rfl
theorem B77 : Tryz.f77.body.isSome = true := by kernel_rfl
theorem N77 : (Tryz.f77.name == "runtime.NumGoroutine") = false := by kernel_rfl
theorem B78 : Tryz.f78.body.isSome = true := by kernel_rfl
theorem N78 : (Tryz.f78.name == "runtime.NumGoroutine") = false := by kernel_rfl
theorem B79 : Tryz.f79.body.isSome = true := by kernel_rfl
theorem N79 : (Tryz.f79.name == "runtime.NumGoroutine") = false := by kernel_rfl
theorem Bd197_0_1_2_3 (x0 : Option Addr) (x0n x0c : Nat) (x1 : Option Addr) (x1n x1c : Nat) (x2 : Int) (x3 : Option Addr) (x3n x3c : Nat) (w : World) : (Instr.build 197 [(0, .slice x0 x0n x0c), (1, .slice x1 x1n x1c), (2, .int .i64 x2), (3, .slice x3 x3n x3c)].toArray).run Tryz.prog w = .ok (.agg [.slice x0 x0n x0c, .slice x1 x1n x1c, .int .i64 x2, .slice x3 x3n x3c, .int .i64 0].toArray) w := by kernel_rfl
theorem F197_3 (b o : Nat) (w : World) : (Instr.fieldAt 197 (.pointer (some ⟨b, o, none⟩)) 3).run Tryz.prog w = .ok (.pointer (some ⟨b, o + 3, none⟩)) w := by kernel_rfl
theorem T20 : Tryz.f20.ntmps = 32 := by kernel_rfl
theorem Bs104_1_0 (x00 x01 : Value) (w : World) : (Instr.buildSlice 104 1 [(0, .agg #[x00, x01])].toArray).run Tryz.prog w = .ok (.slice (some ⟨w.heap.size, 0, none⟩) 1 1) (w.alloc (.cells [x00, x01].toArray 41)) := by kernel_rfl
theorem B39 : Tryz.f39.body.isSome = true := by kernel_rfl
theorem N39 : (Tryz.f39.name == "runtime.NumGoroutine") = false := by kernel_rfl
theorem T52 : Tryz.f52.ntmps = 44 := by kernel_rfl
theorem F197_0 (b o : Nat) (w : World) : (Instr.fieldAt 197 (.pointer (some ⟨b, o, none⟩)) 0).run Tryz.prog w = .ok (.pointer (some ⟨b, o, none⟩)) w := by kernel_rfl
theorem T87 : Tryz.f87.ntmps = 24 := by kernel_rfl
theorem B52 : Tryz.f52.body.isSome = true := by kernel_rfl
theorem N52 : (Tryz.f52.name == "runtime.NumGoroutine") = false := by kernel_rfl
theorem T86 : Tryz.f86.ntmps = 24 := by kernel_rfl
theorem T49 : Tryz.f49.ntmps = 117 := by kernel_rfl
theorem B86 : Tryz.f86.body.isSome = true := by kernel_rfl
theorem N86 : (Tryz.f86.name == "runtime.NumGoroutine") = false := by kernel_rfl
theorem B87 : Tryz.f87.body.isSome = true := by kernel_rfl
theorem N87 : (Tryz.f87.name == "runtime.NumGoroutine") = false := by kernel_rfl
theorem F197_2 (b o : Nat) (w : World) : (Instr.fieldAt 197 (.pointer (some ⟨b, o, none⟩)) 2).run Tryz.prog w = .ok (.pointer (some ⟨b, o + 2, none⟩)) w := by kernel_rfl
theorem F197_4 (b o : Nat) (w : World) : (Instr.fieldAt 197 (.pointer (some ⟨b, o, none⟩)) 4).run Tryz.prog w = .ok (.pointer (some ⟨b, o + 4, none⟩)) w := by kernel_rfl
theorem F197_1 (b o : Nat) (w : World) : (Instr.fieldAt 197 (.pointer (some ⟨b, o, none⟩)) 1).run Tryz.prog w = .ok (.pointer (some ⟨b, o + 1, none⟩)) w := by kernel_rfl
end Go.Proofs.YtdfkpdcpegcieaaGreatDoor
set_option linter.unusedSimpArgs false
set_option linter.unusedVariables false
namespace Go.Proofs.YtdfkpdcpegcieaaGreatDoor
open Go
theorem T122 : Tryz.f122.ntmps = 44 := by kernel_rfl
theorem F190_0 (b o : Nat) (w : World) : (Instr.fieldAt 190 (.pointer (some ⟨b, o, none⟩)) 0).run Tryz.prog w = .ok (.pointer (some ⟨b, o, none⟩)) w := by kernel_rfl
theorem F190_1 (b o : Nat) (w : World) : (Instr.fieldAt 190 (.pointer (some ⟨b, o, none⟩)) 1).run Tryz.prog w = .ok (.pointer (some ⟨b, o + 1, none⟩)) w := by kernel_rfl
theorem F190_2 (b o : Nat) (w : World) : (Instr.fieldAt 190 (.pointer (some ⟨b, o, none⟩)) 2).run Tryz.prog w = .ok (.pointer (some ⟨b, o + 2, none⟩)) w := by kernel_rfl
theorem T89 : Tryz.f89.ntmps = 26 := by kernel_rfl
theorem B122 : Tryz.f122.body.isSome = true := by kernel_rfl
theorem N122 : (Tryz.f122.name == "runtime.NumGoroutine") = false := by kernel_rfl
theorem B76 : Tryz.f76.body.isSome = true := by kernel_rfl
theorem N76 : (Tryz.f76.name == "runtime.NumGoroutine") = false := by kernel_rfl
theorem Bd217_0_1_2 (x0 : Option Addr) (x0n x0c : Nat) (x1 : Option Addr) (x1n x1c : Nat) (x2 : Int) (w : World) : (Instr.build 217 [(0, .slice x0 x0n x0c), (1, .slice x1 x1n x1c), (2, .int .i64 x2)].toArray).run Tryz.prog w = .ok (.agg [.slice x0 x0n x0c, .slice x1 x1n x1c, .int .i64 x2, .int .i64 0].toArray) w := by kernel_rfl
theorem T113 : Tryz.f113.ntmps = 7 := by kernel_rfl
theorem F217_3 (b o : Nat) (w : World) : (Instr.fieldAt 217 (.pointer (some ⟨b, o, none⟩)) 3).run Tryz.prog w = .ok (.pointer (some ⟨b, o + 3, none⟩)) w := by kernel_rfl
theorem T50 : Tryz.f50.ntmps = 98 := by kernel_rfl
theorem F217_0 (b o : Nat) (w : World) : (Instr.fieldAt 217 (.pointer (some ⟨b, o, none⟩)) 0).run Tryz.prog w = .ok (.pointer (some ⟨b, o, none⟩)) w := by kernel_rfl
theorem F217_1 (b o : Nat) (w : World) : (Instr.fieldAt 217 (.pointer (some ⟨b, o, none⟩)) 1).run Tryz.prog w = .ok (.pointer (some ⟨b, o + 1, none⟩)) w := by kernel_rfl
theorem F217_2 (b o : Nat) (w : World) : (Instr.fieldAt 217 (.pointer (some ⟨b, o, none⟩)) 2).run Tryz.prog w = .ok (.pointer (some ⟨b, o + 2, none⟩)) w := by kernel_rfl
theorem T116 : Tryz.f116.ntmps = 25 := by kernel_rfl
theorem I211 : Sv.TI Tryz.prog 211 (.agg #[.int .u64 0, .int .u64 0, .int .u64 0]) 3 24 := by unfold Sv.TI; kernel_rfl
theorem F211_1 (b o : Nat) (w : World) : (Instr.fieldAt 211 (.pointer (some ⟨b, o, none⟩)) 1).run Tryz.prog w = .ok (.pointer (some ⟨b, o + 1, none⟩)) w := by kernel_rfl
theorem F211_2 (b o : Nat) (w : World) : (Instr.fieldAt 211 (.pointer (some ⟨b, o, none⟩)) 2).run Tryz.prog w = .ok (.pointer (some ⟨b, o + 2, none⟩)) w := by kernel_rfl
theorem T119 : Tryz.f119.ntmps = 11 := by kernel_rfl
theorem F211_0 (b o : Nat) (w : World) : (Instr.fieldAt 211 (.pointer (some ⟨b, o, none⟩)) 0).run Tryz.prog w = .ok (.pointer (some ⟨b, o, none⟩)) w := by kernel_rfl
theorem T118 : Tryz.f118.ntmps = 12 := by kernel_rfl
theorem B119 : Tryz.f119.body.isSome = true := by kernel_rfl
theorem N119 : (Tryz.f119.name == "runtime.NumGoroutine") = false := by kernel_rfl
theorem T117 : Tryz.f117.ntmps = 21 := by kernel_rfl
theorem B118 : Tryz.f118.body.isSome = true := by kernel_rfl
theorem N118 : (Tryz.f118.name == "runtime.NumGoroutine") = false := by kernel_rfl
theorem T84 : Tryz.f84.ntmps = 90 := by kernel_rfl
theorem B116 : Tryz.f116.body.isSome = true := by kernel_rfl
theorem N116 : (Tryz.f116.name == "runtime.NumGoroutine") = false := by kernel_rfl
theorem B117 : Tryz.f117.body.isSome = true := by kernel_rfl
theorem N117 : (Tryz.f117.name == "runtime.NumGoroutine") = false := by kernel_rfl
theorem I24 : Sv.TI Tryz.prog 24 (.int .u64 0) 1 8 := by unfold Sv.TI; kernel_rfl
theorem T120 : Tryz.f120.ntmps = 31 := by kernel_rfl
end Go.Proofs.YtdfkpdcpegcieaaGreatDoor
set_option linter.unusedSimpArgs false
set_option linter.unusedVariables false
namespace Go.Proofs.YtdfkpdcpegcieaaGreatDoor
open Go
theorem T53 : Tryz.f53.ntmps = 47 := by kernel_rfl
theorem F108_0 (b o : Nat) (w : World) : (Instr.fieldAt 108 (.pointer (some ⟨b, o, none⟩)) 0).run Tryz.prog w = .ok (.pointer (some ⟨b, o, none⟩)) w := by kernel_rfl
theorem F108_1 (b o : Nat) (w : World) : (Instr.fieldAt 108 (.pointer (some ⟨b, o, none⟩)) 1).run Tryz.prog w = .ok (.pointer (some ⟨b, o + 1, none⟩)) w := by kernel_rfl
theorem B88 : Tryz.f88.body.isSome = true := by kernel_rfl
theorem N88 : (Tryz.f88.name == "runtime.NumGoroutine") = false := by kernel_rfl
theorem F108_2 (b o : Nat) (w : World) : (Instr.fieldAt 108 (.pointer (some ⟨b, o, none⟩)) 2).run Tryz.prog w = .ok (.pointer (some ⟨b, o + 4, none⟩)) w := by kernel_rfl
theorem B89 : Tryz.f89.body.isSome = true := by kernel_rfl
theorem N89 : (Tryz.f89.name == "runtime.NumGoroutine") = false := by kernel_rfl
theorem F108_5 (b o : Nat) (w : World) : (Instr.fieldAt 108 (.pointer (some ⟨b, o, none⟩)) 5).run Tryz.prog w = .ok (.pointer (some ⟨b, o + 7, none⟩)) w := by kernel_rfl
theorem I105 : Sv.TI Tryz.prog 105 (.pointer none) 1 8 := by unfold Sv.TI; kernel_rfl
theorem F108_6 (b o : Nat) (w : World) : (Instr.fieldAt 108 (.pointer (some ⟨b, o, none⟩)) 6).run Tryz.prog w = .ok (.pointer (some ⟨b, o + 8, none⟩)) w := by kernel_rfl
theorem I106 : Sv.TI Tryz.prog 106 (.pointer none) 1 8 := by unfold Sv.TI; kernel_rfl
theorem F108_7 (b o : Nat) (w : World) : (Instr.fieldAt 108 (.pointer (some ⟨b, o, none⟩)) 7).run Tryz.prog w = .ok (.pointer (some ⟨b, o + 9, none⟩)) w := by kernel_rfl
theorem I108 : Sv.TI Tryz.prog 108 (.agg #[.slice none 0 0, .int .i64 0, .int .i64 0, .int .i64 0, .slice none 0 0, .int .u64 0, .int .i64 0, .pointer none, .pointer none, .int .i64 0]) 10 112 := by unfold Sv.TI; kernel_rfl
theorem T38 : Tryz.f38.ntmps = 38 := by kernel_rfl
theorem F45_0 (b o : Nat) (w : World) : (Instr.fieldAt 45 (.pointer (some ⟨b, o, none⟩)) 0).run Tryz.prog w = .ok (.pointer (some ⟨b, o, none⟩)) w := by kernel_rfl
theorem B20 : Tryz.f20.body.isSome = true := by kernel_rfl
theorem N20 : (Tryz.f20.name == "runtime.NumGoroutine") = false := by kernel_rfl
theorem F45_1 (b o : Nat) (w : World) : (Instr.fieldAt 45 (.pointer (some ⟨b, o, none⟩)) 1).run Tryz.prog w = .ok (.pointer (some ⟨b, o + 2, none⟩)) w := by kernel_rfl
theorem F45_2 (b o : Nat) (w : World) : (Instr.fieldAt 45 (.pointer (some ⟨b, o, none⟩)) 2).run Tryz.prog w = .ok (.pointer (some ⟨b, o + 3, none⟩)) w := by kernel_rfl
theorem F45_3 (b o : Nat) (w : World) : (Instr.fieldAt 45 (.pointer (some ⟨b, o, none⟩)) 3).run Tryz.prog w = .ok (.pointer (some ⟨b, o + 6, none⟩)) w := by kernel_rfl
theorem Bd108_0_1_2_3 (x0 : Option Addr) (x0n x0c : Nat) (x10 x11 x12 : Value) (x2 : Option Addr) (x2n x2c : Nat) (x3 : Int) (w : World) : (Instr.build 108 [(0, .slice x0 x0n x0c), (1, .agg #[x10, x11, x12]), (2, .slice x2 x2n x2c), (3, .int .u64 x3)].toArray).run Tryz.prog w = .ok (.agg [.slice x0 x0n x0c, x10, x11, x12, .slice x2 x2n x2c, .int .u64 x3, .int .i64 0, .pointer none, .pointer none, .int .i64 0].toArray) w := by kernel_rfl
theorem B53 : Tryz.f53.body.isSome = true := by kernel_rfl
theorem N53 : (Tryz.f53.name == "runtime.NumGoroutine") = false := by kernel_rfl
theorem Bd108_  (w : World) : (Instr.build 108 [].toArray).run Tryz.prog w = .ok (.agg [.slice none 0 0, .int .i64 0, .int .i64 0, .int .i64 0, .slice none 0 0, .int .u64 0, .int .i64 0, .pointer none, .pointer none, .int .i64 0].toArray) w := by kernel_rfl
end Go.Proofs.YtdfkpdcpegcieaaGreatDoor
set_option linter.unusedSimpArgs false
set_option linter.unusedVariables false
namespace Go.Proofs.YtdfkpdcpegcieaaGreatDoor
open Go
theorem T83 : Tryz.f83.ntmps = 55 := by kernel_rfl
theorem B113 : Tryz.f113.body.isSome = true := by kernel_rfl
theorem N113 : (Tryz.f113.name == "runtime.NumGoroutine") = false := by kernel_rfl
theorem B114 : Tryz.f114.body.isSome = true := by kernel_rfl
theorem N114 : (Tryz.f114.name == "runtime.NumGoroutine") = false := by kernel_rfl
theorem B115 : Tryz.f115.body.isSome = true := by kernel_rfl
theorem N115 : (Tryz.f115.name == "runtime.NumGoroutine") = false := by kernel_rfl
theorem B54 : Tryz.f54.body.isSome = true := by kernel_rfl
theorem N54 : (Tryz.f54.name == "runtime.NumGoroutine") = false := by kernel_rfl
theorem T85 : Tryz.f85.ntmps = 37 := by kernel_rfl
theorem B120 : Tryz.f120.body.isSome = true := by kernel_rfl
theorem N120 : (Tryz.f120.name == "runtime.NumGoroutine") = false := by kernel_rfl
theorem T16 : Tryz.f16.ntmps = 32 := by kernel_rfl
theorem F103_0 (b o : Nat) (w : World) : (Instr.fieldAt 103 (.pointer (some ⟨b, o, none⟩)) 0).run Tryz.prog w = .ok (.pointer (some ⟨b, o, none⟩)) w := by kernel_rfl
theorem F108_4 (b o : Nat) (w : World) : (Instr.fieldAt 108 (.pointer (some ⟨b, o, none⟩)) 4).run Tryz.prog w = .ok (.pointer (some ⟨b, o + 6, none⟩)) w := by kernel_rfl
theorem T21 : Tryz.f21.ntmps = 27 := by kernel_rfl
theorem F103_1 (b o : Nat) (w : World) : (Instr.fieldAt 103 (.pointer (some ⟨b, o, none⟩)) 1).run Tryz.prog w = .ok (.pointer (some ⟨b, o + 1, none⟩)) w := by kernel_rfl
theorem T19 : Tryz.f19.ntmps = 8 := by kernel_rfl
theorem F103_3 (b o : Nat) (w : World) : (Instr.fieldAt 103 (.pointer (some ⟨b, o, none⟩)) 3).run Tryz.prog w = .ok (.pointer (some ⟨b, o + 3, none⟩)) w := by kernel_rfl
theorem B51 : Tryz.f51.body.isSome = true := by kernel_rfl
theorem N51 : (Tryz.f51.name == "runtime.NumGoroutine") = false := by kernel_rfl
theorem T11 : Tryz.f11.ntmps = 87 := by kernel_rfl
theorem Bd103_2 (x2 : Int) (w : World) : (Instr.build 103 [(2, .int .u64 x2)].toArray).run Tryz.prog w = .ok (.agg [.slice none 0 0, .pointer none, .int .u64 x2, .slice none 0 0].toArray) w := by kernel_rfl
theorem Bd103_2_3 (x2 : Int) (x3 : Option Addr) (x3n x3c : Nat) (w : World) : (Instr.build 103 [(2, .int .u64 x2), (3, .slice x3 x3n x3c)].toArray).run Tryz.prog w = .ok (.agg [.slice none 0 0, .pointer none, .int .u64 x2, .slice x3 x3n x3c].toArray) w := by kernel_rfl
theorem I45 : Sv.TI Tryz.prog 45 (.agg #[.int .i64 0, .int .i64 0, .slice none 0 0, .int .i64 0, .int .i64 0, .int .i64 0, .slice none 0 0]) 7 88 := by unfold Sv.TI; kernel_rfl
theorem B38 : Tryz.f38.body.isSome = true := by kernel_rfl
theorem N38 : (Tryz.f38.name == "runtime.NumGoroutine") = false := by kernel_rfl
theorem Bs100_1_0 (x00 x01 x02 x03 x04 x05 x06 x07 x08 x09 : Value) (w : World) : (Instr.buildSlice 100 1 [(0, .agg #[x00, x01, x02, x03, x04, x05, x06, x07, x08, x09])].toArray).run Tryz.prog w = .ok (.slice (some ⟨w.heap.size, 0, none⟩) 1 1) (w.alloc (.cells [x00, x01, x02, x03, x04, x05, x06, x07, x08, x09].toArray 108)) := by kernel_rfl
theorem I100 : Sv.TI Tryz.prog 100 (.slice none 0 0) 1 24 := by unfold Sv.TI; kernel_rfl
theorem I101 : Sv.TI Tryz.prog 101 (.pointer none) 1 8 := by unfold Sv.TI; kernel_rfl
end Go.Proofs.YtdfkpdcpegcieaaGreatDoor
set_option linter.unusedSimpArgs false
set_option linter.unusedVariables false
namespace Go.Proofs.YtdfkpdcpegcieaaGreatDoor
open Go
theorem T48 : Tryz.f48.ntmps = 108 := by kernel_rfl
theorem F108_3 (b o : Nat) (w : World) : (Instr.fieldAt 108 (.pointer (some ⟨b, o, none⟩)) 3).run Tryz.prog w = .ok (.pointer (some ⟨b, o + 5, none⟩)) w := by kernel_rfl
theorem B83 : Tryz.f83.body.isSome = true := by kernel_rfl
theorem N83 : (Tryz.f83.name == "runtime.NumGoroutine") = false := by kernel_rfl
theorem Bd211_0_2 (x0 : Int) (x2 : Int) (w : World) : (Instr.build 211 [(0, .int .u64 x0), (2, .int .u64 x2)].toArray).run Tryz.prog w = .ok (.agg [.int .u64 x0, .int .u64 0, .int .u64 x2].toArray) w := by kernel_rfl
theorem F103_2 (b o : Nat) (w : World) : (Instr.fieldAt 103 (.pointer (some ⟨b, o, none⟩)) 2).run Tryz.prog w = .ok (.pointer (some ⟨b, o + 2, none⟩)) w := by kernel_rfl
theorem B84 : Tryz.f84.body.isSome = true := by kernel_rfl
theorem N84 : (Tryz.f84.name == "runtime.NumGoroutine") = false := by kernel_rfl
theorem B85 : Tryz.f85.body.isSome = true := by kernel_rfl
theorem N85 : (Tryz.f85.name == "runtime.NumGoroutine") = false := by kernel_rfl
end Go.Proofs.YtdfkpdcpegcieaaGreatDoor
set_option linter.unusedSimpArgs false
set_option linter.unusedVariables false
namespace Go.Proofs.YtdfkpdcpegcieaaGreatDoor
open Go
theorem T17 : Tryz.f17.ntmps = 59 := by kernel_rfl
theorem B48 : Tryz.f48.body.isSome = true := by kernel_rfl
theorem N48 : (Tryz.f48.name == "runtime.NumGoroutine") = false := by kernel_rfl
theorem B49 : Tryz.f49.body.isSome = true := by kernel_rfl
theorem N49 : (Tryz.f49.name == "runtime.NumGoroutine") = false := by kernel_rfl
theorem B50 : Tryz.f50.body.isSome = true := by kernel_rfl
theorem N50 : (Tryz.f50.name == "runtime.NumGoroutine") = false := by kernel_rfl
theorem T22 : Tryz.f22.ntmps = 19 := by kernel_rfl
theorem T25 : Tryz.f25.ntmps = 30 := by kernel_rfl
end Go.Proofs.YtdfkpdcpegcieaaGreatDoor
set_option linter.unusedSimpArgs false
set_option linter.unusedVariables false
namespace Go.Proofs.YtdfkpdcpegcieaaGreatDoor
open Go
theorem T32 : Tryz.f32.ntmps = 3 := by kernel_rfl
theorem Bd163_  (w : World) : (Instr.build 163 [].toArray).run Tryz.prog w = .ok (.agg [.slice none 0 0, .slice none 0 0, .slice none 0 0, .int .i64 0, .bool false, .bool false, .bool false, .bool false, .bool false, .bool false, .bool false, .bool false, .bool false, .bool false, .bool false, .bool false, .bool false, .bool false, .bool false, .bool false, .bool false, .bool false, .bool false, .bool false, .bool false, .bool false, .bool false, .bool false, .bool false, .bool false, .bool false, .bool false, .bool false, .bool false, .bool false, .bool false, .bool false, .bool false, .bool false, .bool false, .bool false, .bool false, .bool false, .bool false, .bool false, .bool false, .bool false, .bool false, .bool false, .bool false, .bool false, .bool false, .bool false, .bool false, .bool false, .bool false, .bool false, .bool false, .bool false, .bool false, .bool false, .bool false, .bool false, .bool false, .bool false, .bool false, .bool false, .bool false, .bool false, .bool false, .bool false, .bool false, .bool false, .bool false, .bool false, .bool false, .bool false, .bool false, .bool false, .bool false, .bool false, .bool false, .bool false, .bool false, .bool false, .bool false, .bool false, .bool false, .bool false, .bool false, .bool false, .bool false, .bool false, .bool false, .bool false, .bool false, .bool false, .bool false, .bool false, .bool false, .bool false, .bool false, .bool false, .bool false, .bool false, .bool false, .bool false, .bool false, .bool false, .bool false, .bool false, .bool false, .bool false, .bool false, .bool false, .bool false, .bool false, .bool false, .bool false, .bool false, .bool false, .bool false, .bool false, .bool false, .bool false, .bool false, .bool false, .bool false, .bool false, .bool false, .bool false, .bool false, .bool false, .bool false, .bool false, .bool false, .bool false, .bool false, .bool false, .bool false, .bool false, .bool false, .bool false, .bool false, .bool false, .bool false, .bool false, .bool false, .bool false, .bool false, .bool false, .bool false, .bool false, .bool false, .bool false, .bool false, .bool false, .bool false, .bool false, .bool false, .bool false, .bool false, .bool false, .bool false, .bool false, .bool false, .bool false, .bool false, .bool false, .bool false, .bool false, .bool false, .bool false, .bool false, .bool false, .bool false, .bool false, .bool false, .bool false, .bool false, .bool false, .bool false, .bool false, .bool false, .bool false, .bool false, .bool false, .bool false, .bool false, .bool false, .bool false, .bool false, .bool false, .bool false, .bool false, .bool false, .bool false, .bool false, .bool false, .bool false, .bool false, .bool false, .bool false, .bool false, .bool false, .bool false, .bool false, .bool false, .bool false, .bool false, .bool false, .bool false, .bool false, .bool false, .bool false, .bool false, .bool false, .bool false, .bool false, .bool false, .bool false, .bool false, .bool false, .bool false, .bool false, .bool false, .bool false, .bool false, .bool false, .bool false, .bool false, .bool false, .bool false, .bool false, .bool false, .bool false, .bool false, .bool false, .bool false, .bool false, .bool false, .bool false, .bool false, .bool false, .bool false, .bool false, .bool false, .bool false, .bool false, .bool false, .bool false, .bool false, .bool false, .bool false, .bool false, .bool false, .bool false, .bool false, .bool false, .bool false, .slice none 0 0, .slice none 0 0].toArray) w := by kernel_rfl
theorem T164 : Tryz.f164.ntmps = 19 := by kernel_rfl
theorem T135 : Tryz.f135.ntmps = 9 := by kernel_rfl
theorem B164 : Tryz.f164.body.isSome = true := by kernel_rfl
theorem N164 : (Tryz.f164.name == "runtime.NumGoroutine") = false := by kernel_rfl
theorem T101 : Tryz.f101.ntmps = 6 := by kernel_rfl
theorem B135 : Tryz.f135.body.isSome = true := by kernel_rfl
theorem N135 : (Tryz.f135.name == "runtime.NumGoroutine") = false := by kernel_rfl
theorem T139 : Tryz.f139.ntmps = 64 := by kernel_rfl
theorem T106 : Tryz.f106.ntmps = 44 := by kernel_rfl
theorem T171 : Tryz.f171.ntmps = 8 := by kernel_rfl
theorem T173 : Tryz.f173.ntmps = 19 := by kernel_rfl
theorem T141 : Tryz.f141.ntmps = 63 := by kernel_rfl
theorem T172 : Tryz.f172.ntmps = 47 := by kernel_rfl
theorem I48 : Sv.TI Tryz.prog 48 (.slice none 0 0) 1 24 := by unfold Sv.TI; kernel_rfl
theorem T142 : Tryz.f142.ntmps = 62 := by kernel_rfl
theorem B172 : Tryz.f172.body.isSome = true := by kernel_rfl
theorem N172 : (Tryz.f172.name == "runtime.NumGoroutine") = false := by kernel_rfl
theorem B173 : Tryz.f173.body.isSome = true := by kernel_rfl
theorem N173 : (Tryz.f173.name == "runtime.NumGoroutine") = false := by kernel_rfl
theorem T105 : Tryz.f105.ntmps = 22 := by kernel_rfl
theorem B141 : Tryz.f141.body.isSome = true := by kernel_rfl
theorem N141 : (Tryz.f141.name == "runtime.NumGoroutine") = false := by kernel_rfl
theorem B142 : Tryz.f142.body.isSome = true := by kernel_rfl
theorem N142 : (Tryz.f142.name == "runtime.NumGoroutine") = false := by kernel_rfl
theorem T170 : Tryz.f170.ntmps = 18 := by kernel_rfl
theorem T140 : Tryz.f140.ntmps = 66 := by kernel_rfl
theorem B170 : Tryz.f170.body.isSome = true := by kernel_rfl
theorem N170 : (Tryz.f170.name == "runtime.NumGoroutine") = false := by kernel_rfl
theorem B171 : Tryz.f171.body.isSome = true := by kernel_rfl
theorem N171 : (Tryz.f171.name == "runtime.NumGoroutine") = false := by kernel_rfl
theorem Bd367_0_1_2 (x0 : Option Addr) (x0n x0c : Nat) (x1 : Option Addr) (x1n x1c : Nat) (x2 : Option Addr) (x2n x2c : Nat) (w : World) : (Instr.build 367 [(0, .slice x0 x0n x0c), (1, .slice x1 x1n x1c), (2, .slice x2 x2n x2c)].toArray).run Tryz.prog w = .ok (.agg [.slice x0 x0n x0c, .slice x1 x1n x1c, .slice x2 x2n x2c, .int .u64 0].toArray) w := by kernel_rfl
theorem T103 : Tryz.f103.ntmps = 70 := by kernel_rfl
theorem B139 : Tryz.f139.body.isSome = true := by kernel_rfl
theorem N139 : (Tryz.f139.name == "runtime.NumGoroutine") = false := by kernel_rfl
theorem B140 : Tryz.f140.body.isSome = true := by kernel_rfl
theorem N140 : (Tryz.f140.name == "runtime.NumGoroutine") = false := by kernel_rfl
theorem Bd313_2 (x2 : Option Addr) (w : World) : (Instr.build 313 [(2, .pointer x2)].toArray).run Tryz.prog w = .ok (.agg [.slice none 0 0, .slice none 0 0, .pointer x2, .int .u64 0].toArray) w := by kernel_rfl
theorem T104 : Tryz.f104.ntmps = 177 := by kernel_rfl
theorem B105 : Tryz.f105.body.isSome = true := by kernel_rfl
theorem N105 : (Tryz.f105.name == "runtime.NumGoroutine") = false := by kernel_rfl
theorem I318 : Sv.TI Tryz.prog 318 (.agg #[.slice none 0 0, .slice none 0 0, .int .u64 0, .bool false, .int .i64 0, .int .u64 0]) 6 80 := by unfold Sv.TI; kernel_rfl
theorem Bd316_0_1 (x0 : Option Addr) (x0n x0c : Nat) (x1 : Option Addr) (x1n x1c : Nat) (w : World) : (Instr.build 316 [(0, .slice x0 x0n x0c), (1, .slice x1 x1n x1c)].toArray).run Tryz.prog w = .ok (.agg [.slice x0 x0n x0c, .slice x1 x1n x1c, .int .u64 0].toArray) w := by kernel_rfl
theorem T71 : Tryz.f71.ntmps = 121 := by kernel_rfl
theorem B101 : Tryz.f101.body.isSome = true := by kernel_rfl
theorem N101 : (Tryz.f101.name == "runtime.NumGoroutine") = false := by kernel_rfl
theorem Bd170_3 (x3 : Option Addr) (w : World) : (Instr.build 170 [(3, .pointer x3)].toArray).run Tryz.prog w = .ok (.agg [.slice none 0 0, .pointer none, .pointer none, .pointer x3, .slice none 0 0].toArray) w := by kernel_rfl
theorem B103 : Tryz.f103.body.isSome = true := by kernel_rfl
theorem N103 : (Tryz.f103.name == "runtime.NumGoroutine") = false := by kernel_rfl
theorem F170_1 (b o : Nat) (w : World) : (Instr.fieldAt 170 (.pointer (some ⟨b, o, none⟩)) 1).run Tryz.prog w = .ok (.pointer (some ⟨b, o + 1, none⟩)) w := by kernel_rfl
theorem I167 : Sv.TI Tryz.prog 167 (.pointer none) 1 8 := by unfold Sv.TI; kernel_rfl
theorem B104 : Tryz.f104.body.isSome = true := by kernel_rfl
theorem N104 : (Tryz.f104.name == "runtime.NumGoroutine") = false := by kernel_rfl
theorem F170_2 (b o : Nat) (w : World) : (Instr.fieldAt 170 (.pointer (some ⟨b, o, none⟩)) 2).run Tryz.prog w = .ok (.pointer (some ⟨b, o + 2, none⟩)) w := by kernel_rfl
theorem I168 : Sv.TI Tryz.prog 168 (.pointer none) 1 8 := by unfold Sv.TI; kernel_rfl
theorem B106 : Tryz.f106.body.isSome = true := by kernel_rfl
theorem N106 : (Tryz.f106.name == "runtime.NumGoroutine") = false := by kernel_rfl
theorem F170_4 (b o : Nat) (w : World) : (Instr.fieldAt 170 (.pointer (some ⟨b, o, none⟩)) 4).run Tryz.prog w = .ok (.pointer (some ⟨b, o + 4, none⟩)) w := by kernel_rfl
theorem T33 : Tryz.f33.ntmps = 50 := by kernel_rfl
theorem B71 : Tryz.f71.body.isSome = true := by kernel_rfl
theorem N71 : (Tryz.f71.name == "runtime.NumGoroutine") = false := by kernel_rfl
theorem F170_0 (b o : Nat) (w : World) : (Instr.fieldAt 170 (.pointer (some ⟨b, o, none⟩)) 0).run Tryz.prog w = .ok (.pointer (some ⟨b, o, none⟩)) w := by kernel_rfl
end Go.Proofs.YtdfkpdcpegcieaaGreatDoor
set_option linter.unusedSimpArgs false
set_option linter.unusedVariables false
namespace Go.Proofs.YtdfkpdcpegcieaaGreatDoor
open Go
theorem T34 : Tryz.f34.ntmps = 13 := by kernel_rfl
theorem Bd188_1 (x1 : Int) (w : World) : (Instr.build 188 [(1, .int .i64 x1)].toArray).run Tryz.prog w = .ok (.agg [.bool false, .bool false, .int .u64 0, .bool false, .bool false, .int .u64 0, .bool false, .bool false, .int .u64 0, .bool false, .bool false, .int .u64 0, .bool false, .bool false, .int .u64 0, .bool false, .bool false, .int .u64 0, .bool false, .bool false, .int .u64 0, .bool false, .bool false, .int .u64 0, .bool false, .bool false, .int .u64 0, .bool false, .bool false, .int .u64 0, .bool false, .bool false, .int .u64 0, .bool false, .bool false, .int .u64 0, .bool false, .bool false, .int .u64 0, .bool false, .bool false, .int .u64 0, .bool false, .bool false, .int .u64 0, .bool false, .bool false, .int .u64 0, .bool false, .bool false, .int .u64 0, .bool false, .bool false, .int .u64 0, .bool false, .bool false, .int .u64 0, .bool false, .bool false, .int .u64 0, .bool false, .bool false, .int .u64 0, .bool false, .bool false, .int .u64 0, .bool false, .bool false, .int .u64 0, .bool false, .bool false, .int .u64 0, .bool false, .bool false, .int .u64 0, .bool false, .bool false, .int .u64 0, .bool false, .bool false, .int .u64 0, .bool false, .bool false, .int .u64 0, .bool false, .bool false, .int .u64 0, .bool false, .bool false, .int .u64 0, .bool false, .bool false, .int .u64 0, .bool false, .bool false, .int .u64 0, .int .i64 x1, .bool false, .int .u64 0, .int .i64 0, .bool false, .int .i64 0, .int .u64 0].toArray) w := by kernel_rfl
theorem T62 : Tryz.f62.ntmps = 24 := by kernel_rfl
theorem F188_0 (b o : Nat) (w : World) : (Instr.fieldAt 188 (.pointer (some ⟨b, o, none⟩)) 0).run Tryz.prog w = .ok (.pointer (some ⟨b, o, none⟩)) w := by kernel_rfl
theorem I186 : Sv.TI Tryz.prog 186 (.agg #[.bool false, .bool false, .int .u64 0, .bool false, .bool false, .int .u64 0, .bool false, .bool false, .int .u64 0, .bool false, .bool false, .int .u64 0, .bool false, .bool false, .int .u64 0, .bool false, .bool false, .int .u64 0, .bool false, .bool false, .int .u64 0, .bool false, .bool false, .int .u64 0, .bool false, .bool false, .int .u64 0, .bool false, .bool false, .int .u64 0, .bool false, .bool false, .int .u64 0, .bool false, .bool false, .int .u64 0, .bool false, .bool false, .int .u64 0, .bool false, .bool false, .int .u64 0, .bool false, .bool false, .int .u64 0, .bool false, .bool false, .int .u64 0, .bool false, .bool false, .int .u64 0, .bool false, .bool false, .int .u64 0, .bool false, .bool false, .int .u64 0, .bool false, .bool false, .int .u64 0, .bool false, .bool false, .int .u64 0, .bool false, .bool false, .int .u64 0, .bool false, .bool false, .int .u64 0, .bool false, .bool false, .int .u64 0, .bool false, .bool false, .int .u64 0, .bool false, .bool false, .int .u64 0, .bool false, .bool false, .int .u64 0, .bool false, .bool false, .int .u64 0, .bool false, .bool false, .int .u64 0, .bool false, .bool false, .int .u64 0, .bool false, .bool false, .int .u64 0, .bool false, .bool false, .int .u64 0]) 96 512 := by unfold Sv.TI; kernel_rfl
theorem I185 : Sv.TI Tryz.prog 185 (.agg #[.bool false, .bool false, .int .u64 0]) 3 16 := by unfold Sv.TI; kernel_rfl
theorem F185_0 (b o : Nat) (w : World) : (Instr.fieldAt 185 (.pointer (some ⟨b, o, none⟩)) 0).run Tryz.prog w = .ok (.pointer (some ⟨b, o, none⟩)) w := by kernel_rfl
theorem F188_4 (b o : Nat) (w : World) : (Instr.fieldAt 188 (.pointer (some ⟨b, o, none⟩)) 4).run Tryz.prog w = .ok (.pointer (some ⟨b, o + 99, none⟩)) w := by kernel_rfl
theorem T91 : Tryz.f91.ntmps = 15 := by kernel_rfl
theorem F188_7 (b o : Nat) (w : World) : (Instr.fieldAt 188 (.pointer (some ⟨b, o, none⟩)) 7).run Tryz.prog w = .ok (.pointer (some ⟨b, o + 102, none⟩)) w := by kernel_rfl
theorem T92 : Tryz.f92.ntmps = 64 := by kernel_rfl
theorem F188_1 (b o : Nat) (w : World) : (Instr.fieldAt 188 (.pointer (some ⟨b, o, none⟩)) 1).run Tryz.prog w = .ok (.pointer (some ⟨b, o + 96, none⟩)) w := by kernel_rfl
theorem F188_2 (b o : Nat) (w : World) : (Instr.fieldAt 188 (.pointer (some ⟨b, o, none⟩)) 2).run Tryz.prog w = .ok (.pointer (some ⟨b, o + 97, none⟩)) w := by kernel_rfl
theorem T68 : Tryz.f68.ntmps = 26 := by kernel_rfl
theorem B62 : Tryz.f62.body.isSome = true := by kernel_rfl
theorem N62 : (Tryz.f62.name == "runtime.NumGoroutine") = false := by kernel_rfl
theorem F188_5 (b o : Nat) (w : World) : (Instr.fieldAt 188 (.pointer (some ⟨b, o, none⟩)) 5).run Tryz.prog w = .ok (.pointer (some ⟨b, o + 100, none⟩)) w := by kernel_rfl
theorem F188_6 (b o : Nat) (w : World) : (Instr.fieldAt 188 (.pointer (some ⟨b, o, none⟩)) 6).run Tryz.prog w = .ok (.pointer (some ⟨b, o + 101, none⟩)) w := by kernel_rfl
theorem T63 : Tryz.f63.ntmps = 36 := by kernel_rfl
theorem B91 : Tryz.f91.body.isSome = true := by kernel_rfl
theorem N91 : (Tryz.f91.name == "runtime.NumGoroutine") = false := by kernel_rfl
theorem I188 : Sv.TI Tryz.prog 188 (.agg #[.bool false, .bool false, .int .u64 0, .bool false, .bool false, .int .u64 0, .bool false, .bool false, .int .u64 0, .bool false, .bool false, .int .u64 0, .bool false, .bool false, .int .u64 0, .bool false, .bool false, .int .u64 0, .bool false, .bool false, .int .u64 0, .bool false, .bool false, .int .u64 0, .bool false, .bool false, .int .u64 0, .bool false, .bool false, .int .u64 0, .bool false, .bool false, .int .u64 0, .bool false, .bool false, .int .u64 0, .bool false, .bool false, .int .u64 0, .bool false, .bool false, .int .u64 0, .bool false, .bool false, .int .u64 0, .bool false, .bool false, .int .u64 0, .bool false, .bool false, .int .u64 0, .bool false, .bool false, .int .u64 0, .bool false, .bool false, .int .u64 0, .bool false, .bool false, .int .u64 0, .bool false, .bool false, .int .u64 0, .bool false, .bool false, .int .u64 0, .bool false, .bool false, .int .u64 0, .bool false, .bool false, .int .u64 0, .bool false, .bool false, .int .u64 0, .bool false, .bool false, .int .u64 0, .bool false, .bool false, .int .u64 0, .bool false, .bool false, .int .u64 0, .bool false, .bool false, .int .u64 0, .bool false, .bool false, .int .u64 0, .bool false, .bool false, .int .u64 0, .bool false, .bool false, .int .u64 0, .int .i64 0, .bool false, .int .u64 0, .int .i64 0, .bool false, .int .i64 0, .int .u64 0]) 103 568 := by unfold Sv.TI; kernel_rfl
theorem B92 : Tryz.f92.body.isSome = true := by kernel_rfl
theorem N92 : (Tryz.f92.name == "runtime.NumGoroutine") = false := by kernel_rfl
theorem T35 : Tryz.f35.ntmps = 14 := by kernel_rfl
theorem Bd148_3 (x3 : Option Addr) (x3n x3c : Nat) (w : World) : (Instr.build 148 [(3, .slice x3 x3n x3c)].toArray).run Tryz.prog w = .ok (.agg [.int .i64 0, .int .u64 0, .int .u64 0, .slice x3 x3n x3c].toArray) w := by kernel_rfl
theorem T60 : Tryz.f60.ntmps = 15 := by kernel_rfl
theorem F148_1 (b o : Nat) (w : World) : (Instr.fieldAt 148 (.pointer (some ⟨b, o, none⟩)) 1).run Tryz.prog w = .ok (.pointer (some ⟨b, o + 1, none⟩)) w := by kernel_rfl
theorem T93 : Tryz.f93.ntmps = 67 := by kernel_rfl
theorem B60 : Tryz.f60.body.isSome = true := by kernel_rfl
theorem N60 : (Tryz.f60.name == "runtime.NumGoroutine") = false := by kernel_rfl
theorem F148_0 (b o : Nat) (w : World) : (Instr.fieldAt 148 (.pointer (some ⟨b, o, none⟩)) 0).run Tryz.prog w = .ok (.pointer (some ⟨b, o, none⟩)) w := by kernel_rfl
theorem F148_2 (b o : Nat) (w : World) : (Instr.fieldAt 148 (.pointer (some ⟨b, o, none⟩)) 2).run Tryz.prog w = .ok (.pointer (some ⟨b, o + 2, none⟩)) w := by kernel_rfl
theorem F148_3 (b o : Nat) (w : World) : (Instr.fieldAt 148 (.pointer (some ⟨b, o, none⟩)) 3).run Tryz.prog w = .ok (.pointer (some ⟨b, o + 3, none⟩)) w := by kernel_rfl
theorem T64 : Tryz.f64.ntmps = 41 := by kernel_rfl
theorem B93 : Tryz.f93.body.isSome = true := by kernel_rfl
theorem N93 : (Tryz.f93.name == "runtime.NumGoroutine") = false := by kernel_rfl
theorem T138 : Tryz.f138.ntmps = 8 := by kernel_rfl
theorem Bs48_0_  (w : World) : (Instr.buildSlice 48 0 [].toArray).run Tryz.prog w = .ok (.slice (some ⟨w.heap.size, 0, none⟩) 0 0) (w.alloc (.cells [].toArray 3)) := by kernel_rfl
theorem T133 : Tryz.f133.ntmps = 8 := by kernel_rfl
theorem B138 : Tryz.f138.body.isSome = true := by kernel_rfl
theorem N138 : (Tryz.f138.name == "runtime.NumGoroutine") = false := by kernel_rfl
theorem T132 : Tryz.f132.ntmps = 44 := by kernel_rfl
theorem I239 : Sv.TI Tryz.prog 239 (.agg #[.bool false, .bool false, .bool false, .bool false, .bool false, .bool false, .bool false, .bool false, .bool false, .bool false, .bool false, .bool false, .bool false, .bool false, .bool false, .bool false, .bool false, .bool false, .bool false, .bool false, .bool false, .bool false, .bool false, .bool false, .bool false, .bool false, .bool false, .bool false, .bool false, .bool false, .bool false, .bool false, .bool false, .bool false, .bool false, .bool false, .bool false, .bool false, .bool false, .bool false, .bool false, .bool false, .bool false, .bool false, .bool false, .bool false, .bool false, .bool false, .bool false, .bool false, .bool false, .bool false, .bool false, .bool false, .bool false, .bool false, .bool false, .bool false, .bool false, .bool false, .bool false, .bool false, .bool false, .bool false]) 64 64 := by unfold Sv.TI; kernel_rfl
theorem Bd242_0_1_2 (x0 : Option Addr) (x0n x0c : Nat) (x1 : Int) (x2 : Int) (w : World) : (Instr.build 242 [(0, .slice x0 x0n x0c), (1, .int .i64 x1), (2, .int .i64 x2)].toArray).run Tryz.prog w = .ok (.agg [.slice x0 x0n x0c, .int .i64 x1, .int .i64 x2, .int .i64 0, .bool false, .bool false, .bool false, .bool false, .bool false, .bool false, .bool false, .bool false, .bool false, .bool false, .bool false, .bool false, .bool false, .bool false, .bool false, .bool false, .bool false, .bool false, .bool false, .bool false, .bool false, .bool false, .bool false, .bool false, .bool false, .bool false, .bool false, .bool false, .bool false, .bool false, .bool false, .bool false, .bool false, .bool false, .bool false, .bool false, .bool false, .bool false, .bool false, .bool false, .bool false, .bool false, .bool false, .bool false, .bool false, .bool false, .bool false, .bool false, .bool false, .bool false, .bool false, .bool false, .bool false, .bool false, .bool false, .bool false, .bool false, .bool false, .bool false, .bool false, .bool false, .bool false, .bool false, .bool false, .bool false, .bool false, .bool false, .bool false, .bool false, .bool false, .bool false, .bool false, .bool false, .bool false, .bool false, .bool false, .bool false, .bool false, .bool false, .bool false, .bool false, .bool false, .bool false, .bool false, .bool false, .bool false, .bool false, .bool false, .bool false, .bool false, .bool false, .bool false, .bool false, .bool false, .bool false, .bool false, .bool false, .bool false, .bool false, .bool false, .bool false, .bool false, .bool false, .bool false, .bool false, .bool false, .bool false, .bool false, .bool false, .bool false, .bool false, .bool false, .bool false, .bool false, .bool false, .bool false, .bool false, .bool false, .bool false, .bool false, .bool false, .bool false, .bool false, .bool false, .bool false, .bool false, .bool false, .bool false, .bool false, .bool false, .bool false, .bool false, .bool false, .bool false, .bool false, .bool false, .bool false, .bool false, .bool false, .bool false, .bool false, .bool false, .bool false, .bool false, .bool false, .bool false, .bool false, .bool false, .bool false, .bool false, .bool false, .bool false, .bool false, .bool false, .bool false, .bool false, .bool false, .bool false, .bool false, .bool false, .bool false, .bool false, .bool false, .bool false, .bool false, .bool false, .bool false, .bool false, .bool false, .bool false, .bool false, .bool false, .bool false, .bool false, .bool false, .bool false, .bool false, .bool false, .bool false, .bool false, .bool false, .bool false, .bool false, .bool false, .bool false, .bool false, .bool false, .bool false, .bool false, .bool false, .bool false, .bool false, .bool false, .bool false, .bool false, .bool false, .bool false, .bool false, .bool false, .bool false, .bool false, .bool false, .bool false, .bool false, .bool false, .bool false, .bool false, .bool false, .bool false, .bool false, .bool false, .bool false, .bool false, .bool false, .bool false, .bool false, .bool false, .bool false, .bool false, .bool false, .bool false, .bool false, .bool false, .bool false, .bool false, .bool false, .bool false, .bool false, .bool false, .bool false, .bool false, .bool false, .bool false, .bool false, .bool false, .bool false, .bool false, .bool false, .bool false, .bool false, .bool false, .bool false, .bool false, .bool false, .bool false, .bool false, .bool false, .bool false, .bool false, .bool false, .bool false, .bool false, .bool false, .bool false, .bool false, .bool false, .bool false, .bool false, .bool false, .bool false, .bool false, .bool false, .bool false, .bool false, .bool false, .bool false, .bool false, .bool false, .bool false, .bool false, .bool false, .bool false, .bool false, .bool false, .bool false, .bool false, .bool false, .bool false, .bool false, .bool false, .bool false, .bool false, .bool false, .bool false, .bool false, .bool false, .bool false, .bool false, .bool false, .bool false, .bool false, .bool false, .bool false, .bool false, .bool false, .bool false, .bool false, .bool false, .bool false, .bool false, .bool false, .bool false, .bool false, .bool false, .bool false, .bool false, .bool false, .bool false, .bool false, .bool false, .bool false, .bool false, .bool false, .bool false, .bool false, .bool false, .bool false, .bool false, .bool false, .bool false, .int .i64 0].toArray) w := by kernel_rfl
theorem F242_1 (b o : Nat) (w : World) : (Instr.fieldAt 242 (.pointer (some ⟨b, o, none⟩)) 1).run Tryz.prog w = .ok (.pointer (some ⟨b, o + 1, none⟩)) w := by kernel_rfl
theorem T98 : Tryz.f98.ntmps = 8 := by kernel_rfl
theorem T100 : Tryz.f100.ntmps = 13 := by kernel_rfl
theorem T36 : Tryz.f36.ntmps = 12 := by kernel_rfl
theorem Bd151_0_1_2_4 (x0 : Option Addr) (x1 : Option Addr) (x2 : Option Addr) (x4 : Int) (w : World) : (Instr.build 151 [(0, .pointer x0), (1, .pointer x1), (2, .pointer x2), (4, .int .i64 x4)].toArray).run Tryz.prog w = .ok (.agg [.pointer x0, .pointer x1, .pointer x2, .pointer none, .int .i64 x4, .int .i64 0, .int .i64 0, .int .i64 0].toArray) w := by kernel_rfl
theorem T61 : Tryz.f61.ntmps = 9 := by kernel_rfl
theorem T70 : Tryz.f70.ntmps = 48 := by kernel_rfl
theorem F151_3 (b o : Nat) (w : World) : (Instr.fieldAt 151 (.pointer (some ⟨b, o, none⟩)) 3).run Tryz.prog w = .ok (.pointer (some ⟨b, o + 3, none⟩)) w := by kernel_rfl
theorem B98 : Tryz.f98.body.isSome = true := by kernel_rfl
theorem N98 : (Tryz.f98.name == "runtime.NumGoroutine") = false := by kernel_rfl
theorem F151_4 (b o : Nat) (w : World) : (Instr.fieldAt 151 (.pointer (some ⟨b, o, none⟩)) 4).run Tryz.prog w = .ok (.pointer (some ⟨b, o + 4, none⟩)) w := by kernel_rfl
theorem F151_1 (b o : Nat) (w : World) : (Instr.fieldAt 151 (.pointer (some ⟨b, o, none⟩)) 1).run Tryz.prog w = .ok (.pointer (some ⟨b, o + 1, none⟩)) w := by kernel_rfl
theorem B68 : Tryz.f68.body.isSome = true := by kernel_rfl
theorem N68 : (Tryz.f68.name == "runtime.NumGoroutine") = false := by kernel_rfl
theorem B100 : Tryz.f100.body.isSome = true := by kernel_rfl
theorem N100 : (Tryz.f100.name == "runtime.NumGoroutine") = false := by kernel_rfl
theorem T96 : Tryz.f96.ntmps = 31 := by kernel_rfl
theorem F151_0 (b o : Nat) (w : World) : (Instr.fieldAt 151 (.pointer (some ⟨b, o, none⟩)) 0).run Tryz.prog w = .ok (.pointer (some ⟨b, o, none⟩)) w := by kernel_rfl
theorem B133 : Tryz.f133.body.isSome = true := by kernel_rfl
theorem N133 : (Tryz.f133.name == "runtime.NumGoroutine") = false := by kernel_rfl
theorem B132 : Tryz.f132.body.isSome = true := by kernel_rfl
theorem N132 : (Tryz.f132.name == "runtime.NumGoroutine") = false := by kernel_rfl
theorem I149 : Sv.TI Tryz.prog 149 (.pointer none) 1 8 := by unfold Sv.TI; kernel_rfl
theorem B70 : Tryz.f70.body.isSome = true := by kernel_rfl
theorem N70 : (Tryz.f70.name == "runtime.NumGoroutine") = false := by kernel_rfl
theorem T66 : Tryz.f66.ntmps = 27 := by kernel_rfl
theorem F151_2 (b o : Nat) (w : World) : (Instr.fieldAt 151 (.pointer (some ⟨b, o, none⟩)) 2).run Tryz.prog w = .ok (.pointer (some ⟨b, o + 2, none⟩)) w := by kernel_rfl
theorem B96 : Tryz.f96.body.isSome = true := by kernel_rfl
theorem N96 : (Tryz.f96.name == "runtime.NumGoroutine") = false := by kernel_rfl
theorem T28 : Tryz.f28.ntmps = 74 := by kernel_rfl
theorem B61 : Tryz.f61.body.isSome = true := by kernel_rfl
theorem N61 : (Tryz.f61.name == "runtime.NumGoroutine") = false := by kernel_rfl
theorem B63 : Tryz.f63.body.isSome = true := by kernel_rfl
theorem N63 : (Tryz.f63.name == "runtime.NumGoroutine") = false := by kernel_rfl
theorem F151_5 (b o : Nat) (w : World) : (Instr.fieldAt 151 (.pointer (some ⟨b, o, none⟩)) 5).run Tryz.prog w = .ok (.pointer (some ⟨b, o + 5, none⟩)) w := by kernel_rfl
theorem F151_7 (b o : Nat) (w : World) : (Instr.fieldAt 151 (.pointer (some ⟨b, o, none⟩)) 7).run Tryz.prog w = .ok (.pointer (some ⟨b, o + 7, none⟩)) w := by kernel_rfl
theorem I28 : Sv.TI Tryz.prog 28 (.int .i64 0) 1 8 := by unfold Sv.TI; kernel_rfl
theorem B64 : Tryz.f64.body.isSome = true := by kernel_rfl
theorem N64 : (Tryz.f64.name == "runtime.NumGoroutine") = false := by kernel_rfl
theorem B66 : Tryz.f66.body.isSome = true := by kernel_rfl
theorem N66 : (Tryz.f66.name == "runtime.NumGoroutine") = false := by kernel_rfl
theorem T30 : Tryz.f30.ntmps = 7 := by kernel_rfl
theorem T37 : Tryz.f37.ntmps = 7 := by kernel_rfl
theorem T31 : Tryz.f31.ntmps = 7 := by kernel_rfl
theorem F151_6 (b o : Nat) (w : World) : (Instr.fieldAt 151 (.pointer (some ⟨b, o, none⟩)) 6).run Tryz.prog w = .ok (.pointer (some ⟨b, o + 6, none⟩)) w := by kernel_rfl
end Go.Proofs.YtdfkpdcpegcieaaGreatDoor
set_option linter.unusedSimpArgs false
set_option linter.unusedVariables false
namespace Go.Proofs.YtdfkpdcpegcieaaGreatDoor
open Go
theorem T23 : Tryz.f23.ntmps = 26 := by kernel_rfl
theorem T24 : Tryz.f24.ntmps = 26 := by kernel_rfl
theorem T10 : Tryz.f10.ntmps = 99 := by kernel_rfl
theorem B32 : Tryz.f32.body.isSome = true := by kernel_rfl
theorem N32 : (Tryz.f32.name == "runtime.NumGoroutine") = false := by kernel_rfl
theorem B33 : Tryz.f33.body.isSome = true := by kernel_rfl
theorem N33 : (Tryz.f33.name == "runtime.NumGoroutine") = false := by kernel_rfl
theorem B34 : Tryz.f34.body.isSome = true := by kernel_rfl
theorem N34 : (Tryz.f34.name == "runtime.NumGoroutine") = false := by kernel_rfl
theorem B35 : Tryz.f35.body.isSome = true := by kernel_rfl
theorem N35 : (Tryz.f35.name == "runtime.NumGoroutine") = false := by kernel_rfl
theorem B36 : Tryz.f36.body.isSome = true := by kernel_rfl
theorem N36 : (Tryz.f36.name == "runtime.NumGoroutine") = false := by kernel_rfl
theorem Bd41_0_1 (x0 : Int) (x1 : Int) (w : World) : (Instr.build 41 [(0, .int .i64 x0), (1, .int .i64 x1)].toArray).run Tryz.prog w = .ok (.agg [.int .i64 x0, .int .i64 x1].toArray) w := by kernel_rfl
theorem Bd61_0_2 (x0 : Int) (x2 : Int) (w : World) : (Instr.build 61 [(0, .int .u64 x0), (2, .int .u64 x2)].toArray).run Tryz.prog w = .ok (.agg [.int .u64 x0, .int .u64 0, .int .u64 x2].toArray) w := by kernel_rfl
theorem Bs42_1_0 (x00 x01 x02 : Value) (w : World) : (Instr.buildSlice 42 1 [(0, .agg #[x00, x01, x02])].toArray).run Tryz.prog w = .ok (.slice (some ⟨w.heap.size, 0, none⟩) 1 1) (w.alloc (.cells [x00, x01, x02].toArray 61)) := by kernel_rfl
theorem Bd39_0_2 (x0 : Int) (x2 : Int) (w : World) : (Instr.build 39 [(0, .int .i64 x0), (2, .int .i64 x2)].toArray).run Tryz.prog w = .ok (.agg [.int .i64 x0, .int .i64 0, .int .i64 x2].toArray) w := by kernel_rfl
theorem Bd45_0_1_2 (x00 x01 : Value) (x1 : Option Addr) (x1n x1c : Nat) (x20 x21 x22 : Value) (w : World) : (Instr.build 45 [(0, .agg #[x00, x01]), (1, .slice x1 x1n x1c), (2, .agg #[x20, x21, x22])].toArray).run Tryz.prog w = .ok (.agg [x00, x01, .slice x1 x1n x1c, x20, x21, x22, .slice none 0 0].toArray) w := by kernel_rfl
theorem Bs22_1_0 (x00 x01 x02 x03 x04 x05 x06 : Value) (w : World) : (Instr.buildSlice 22 1 [(0, .agg #[x00, x01, x02, x03, x04, x05, x06])].toArray).run Tryz.prog w = .ok (.slice (some ⟨w.heap.size, 0, none⟩) 1 1) (w.alloc (.cells [x00, x01, x02, x03, x04, x05, x06].toArray 45)) := by kernel_rfl
theorem B11 : Tryz.f11.body.isSome = true := by kernel_rfl
theorem N11 : (Tryz.f11.name == "runtime.NumGoroutine") = false := by kernel_rfl
theorem B28 : Tryz.f28.body.isSome = true := by kernel_rfl
theorem N28 : (Tryz.f28.name == "runtime.NumGoroutine") = false := by kernel_rfl
theorem B16 : Tryz.f16.body.isSome = true := by kernel_rfl
theorem N16 : (Tryz.f16.name == "runtime.NumGoroutine") = false := by kernel_rfl
theorem B17 : Tryz.f17.body.isSome = true := by kernel_rfl
theorem N17 : (Tryz.f17.name == "runtime.NumGoroutine") = false := by kernel_rfl
theorem B30 : Tryz.f30.body.isSome = true := by kernel_rfl
theorem N30 : (Tryz.f30.name == "runtime.NumGoroutine") = false := by kernel_rfl
theorem B37 : Tryz.f37.body.isSome = true := by kernel_rfl
theorem N37 : (Tryz.f37.name == "runtime.NumGoroutine") = false := by kernel_rfl
theorem B19 : Tryz.f19.body.isSome = true := by kernel_rfl
theorem N19 : (Tryz.f19.name == "runtime.NumGoroutine") = false := by kernel_rfl
theorem Bs56_1_0 (x0 : Int) (w : World) : (Instr.buildSlice 56 1 [(0, .int .i64 x0)].toArray).run Tryz.prog w = .ok (.slice (some ⟨w.heap.size, 0, none⟩) 1 1) (w.alloc (.cells [.int .i64 x0].toArray 2)) := by kernel_rfl
theorem B23 : Tryz.f23.body.isSome = true := by kernel_rfl
theorem N23 : (Tryz.f23.name == "runtime.NumGoroutine") = false := by kernel_rfl
end Go.Proofs.YtdfkpdcpegcieaaGreatDoor
set_option linter.unusedSimpArgs false
set_option linter.unusedVariables false
namespace Go.Proofs.YtdfkpdcpegcieaaGreatDoor
open Go
theorem T47 : Tryz.f47.ntmps = 44 := by kernel_rfl
theorem B14 : Tryz.f14.body.isSome = true := by kernel_rfl
theorem N14 : (Tryz.f14.name == "runtime.NumGoroutine") = false := by kernel_rfl
theorem Bd190_0_1_2 (x0 : Int) (x1 : Int) (x2 : Int) (w : World) : (Instr.build 190 [(0, .int .i64 x0), (1, .int .i64 x1), (2, .int .i64 x2)].toArray).run Tryz.prog w = .ok (.agg [.int .i64 x0, .int .i64 x1, .int .i64 x2].toArray) w := by kernel_rfl
theorem Bs43_1_0 (x00 x01 x02 : Value) (w : World) : (Instr.buildSlice 43 1 [(0, .agg #[x00, x01, x02])].toArray).run Tryz.prog w = .ok (.slice (some ⟨w.heap.size, 0, none⟩) 1 1) (w.alloc (.cells [x00, x01, x02].toArray 190)) := by kernel_rfl
theorem T46 : Tryz.f46.ntmps = 81 := by kernel_rfl
theorem Bd61_0_1 (x0 : Int) (x1 : Int) (w : World) : (Instr.build 61 [(0, .int .u64 x0), (1, .int .u64 x1)].toArray).run Tryz.prog w = .ok (.agg [.int .u64 x0, .int .u64 x1, .int .u64 0].toArray) w := by kernel_rfl
theorem Bd61_0_1_2 (x0 : Int) (x1 : Int) (x2 : Int) (w : World) : (Instr.build 61 [(0, .int .u64 x0), (1, .int .u64 x1), (2, .int .u64 x2)].toArray).run Tryz.prog w = .ok (.agg [.int .u64 x0, .int .u64 x1, .int .u64 x2].toArray) w := by kernel_rfl
end Go.Proofs.YtdfkpdcpegcieaaGreatDoor
set_option linter.unusedSimpArgs false
set_option linter.unusedVariables false
namespace Go.Proofs.YtdfkpdcpegcieaaGreatDoor
open Go
theorem I127 : Sv.TI Tryz.prog 127 (.agg #[.slice none 0 0, .slice none 0 0, .int .i64 0]) 3 56 := by unfold Sv.TI; kernel_rfl
theorem T45 : Tryz.f45.ntmps = 196 := by kernel_rfl
theorem Bd127_2_0 (x2 : Int) (x0 : Option Addr) (x0n x0c : Nat) (w : World) : (Instr.build 127 [(2, .int .i64 x2), (0, .slice x0 x0n x0c)].toArray).run Tryz.prog w = .ok (.agg [.slice x0 x0n x0c, .slice none 0 0, .int .i64 x2].toArray) w := by kernel_rfl
theorem F127_0 (b o : Nat) (w : World) : (Instr.fieldAt 127 (.pointer (some ⟨b, o, none⟩)) 0).run Tryz.prog w = .ok (.pointer (some ⟨b, o, none⟩)) w := by kernel_rfl
theorem Bd195_0_1_2 (x0 : Int) (x1 : Int) (x2 : Int) (w : World) : (Instr.build 195 [(0, .int .i64 x0), (1, .int .i64 x1), (2, .int .i64 x2)].toArray).run Tryz.prog w = .ok (.agg [.int .i64 x0, .int .i64 x1, .int .i64 x2].toArray) w := by kernel_rfl
theorem F127_1 (b o : Nat) (w : World) : (Instr.fieldAt 127 (.pointer (some ⟨b, o, none⟩)) 1).run Tryz.prog w = .ok (.pointer (some ⟨b, o + 1, none⟩)) w := by kernel_rfl
theorem Bs23_1_0 (x00 x01 x02 : Value) (w : World) : (Instr.buildSlice 23 1 [(0, .agg #[x00, x01, x02])].toArray).run Tryz.prog w = .ok (.slice (some ⟨w.heap.size, 0, none⟩) 1 1) (w.alloc (.cells [x00, x01, x02].toArray 195)) := by kernel_rfl
theorem I23 : Sv.TI Tryz.prog 23 (.slice none 0 0) 1 24 := by unfold Sv.TI; kernel_rfl
end Go.Proofs.YtdfkpdcpegcieaaGreatDoor
set_option linter.unusedSimpArgs false
set_option linter.unusedVariables false
namespace Go.Proofs.YtdfkpdcpegcieaaGreatDoor
open Go
theorem T9 : Tryz.f9.ntmps = 29 := by kernel_rfl
theorem T15 : Tryz.f15.ntmps = 19 := by kernel_rfl
theorem F50_4 (b o : Nat) (w : World) : (Instr.fieldAt 50 (.pointer (some ⟨b, o, none⟩)) 4).run Tryz.prog w = .ok (.pointer (some ⟨b, o + 4, none⟩)) w := by kernel_rfl
theorem F50_0 (b o : Nat) (w : World) : (Instr.fieldAt 50 (.pointer (some ⟨b, o, none⟩)) 0).run Tryz.prog w = .ok (.pointer (some ⟨b, o, none⟩)) w := by kernel_rfl
theorem F50_1 (b o : Nat) (w : World) : (Instr.fieldAt 50 (.pointer (some ⟨b, o, none⟩)) 1).run Tryz.prog w = .ok (.pointer (some ⟨b, o + 1, none⟩)) w := by kernel_rfl
theorem T18 : Tryz.f18.ntmps = 10 := by kernel_rfl
theorem F50_2 (b o : Nat) (w : World) : (Instr.fieldAt 50 (.pointer (some ⟨b, o, none⟩)) 2).run Tryz.prog w = .ok (.pointer (some ⟨b, o + 2, none⟩)) w := by kernel_rfl
theorem I35 : Sv.TI Tryz.prog 35 (.agg #[.slice none 0 0, .slice none 0 0, .int .i64 0, .int .i64 0, .int .u64 0]) 5 72 := by unfold Sv.TI; kernel_rfl
theorem T13 : Tryz.f13.ntmps = 115 := by kernel_rfl
theorem B45 : Tryz.f45.body.isSome = true := by kernel_rfl
theorem N45 : (Tryz.f45.name == "runtime.NumGoroutine") = false := by kernel_rfl
theorem F127_2 (b o : Nat) (w : World) : (Instr.fieldAt 127 (.pointer (some ⟨b, o, none⟩)) 2).run Tryz.prog w = .ok (.pointer (some ⟨b, o + 2, none⟩)) w := by kernel_rfl
theorem Bd35_1_2_3_4 (x1 : Option Addr) (x1n x1c : Nat) (x2 : Int) (x3 : Int) (x4 : Int) (w : World) : (Instr.build 35 [(1, .slice x1 x1n x1c), (2, .int .i64 x2), (3, .int .i64 x3), (4, .int .u64 x4)].toArray).run Tryz.prog w = .ok (.agg [.slice none 0 0, .slice x1 x1n x1c, .int .i64 x2, .int .i64 x3, .int .u64 x4].toArray) w := by kernel_rfl
theorem Bd39_0_1_2 (x0 : Int) (x1 : Int) (x2 : Int) (w : World) : (Instr.build 39 [(0, .int .i64 x0), (1, .int .i64 x1), (2, .int .i64 x2)].toArray).run Tryz.prog w = .ok (.agg [.int .i64 x0, .int .i64 x1, .int .i64 x2].toArray) w := by kernel_rfl
theorem B46 : Tryz.f46.body.isSome = true := by kernel_rfl
theorem N46 : (Tryz.f46.name == "runtime.NumGoroutine") = false := by kernel_rfl
theorem I42 : Sv.TI Tryz.prog 42 (.slice none 0 0) 1 24 := by unfold Sv.TI; kernel_rfl
theorem B47 : Tryz.f47.body.isSome = true := by kernel_rfl
theorem N47 : (Tryz.f47.name == "runtime.NumGoroutine") = false := by kernel_rfl
theorem I43 : Sv.TI Tryz.prog 43 (.slice none 0 0) 1 24 := by unfold Sv.TI; kernel_rfl
theorem F35_0 (b o : Nat) (w : World) : (Instr.fieldAt 35 (.pointer (some ⟨b, o, none⟩)) 0).run Tryz.prog w = .ok (.pointer (some ⟨b, o, none⟩)) w := by kernel_rfl
theorem I22 : Sv.TI Tryz.prog 22 (.slice none 0 0) 1 24 := by unfold Sv.TI; kernel_rfl
end Go.Proofs.YtdfkpdcpegcieaaGreatDoor
