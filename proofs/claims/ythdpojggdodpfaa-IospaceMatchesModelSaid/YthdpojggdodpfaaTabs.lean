/-
  Texts joined: Tab1, Tab2, Tab3, Tab4, Tab5, Tab6, Tab7, Tab8, Tab9, Tab10, Tab11, Tab12, Tab13, Tab14, Tab15, Tab16, Tab17, Tab18, Tab19, Tab20, Tab21, Tab22, Tab23, Tab24.
-/
import Derived.Test.YthdpojggdodpfaaProg
import Derived.Test.YthdpojggdodpfaaSvB
set_option linter.unusedSimpArgs false
set_option linter.unusedVariables false
namespace Go.Proofs.Ythdpojggdodpfaa
open Go
theorem T10 : Try.f10.ntmps = 11 := by kernel_rfl
theorem T23 : Try.f23.ntmps = 9 := by kernel_rfl
theorem T25 : Try.f25.ntmps = 9 := by kernel_rfl
theorem T31 : Try.f31.ntmps = 9 := by kernel_rfl
theorem F32_0 (b o : Nat) (w : World) : (Instr.fieldAt 32 (.pointer (some ⟨b, o, none⟩)) 0).run Try.prog w = .ok (.pointer (some ⟨b, o, none⟩)) w := by kernel_rfl
theorem F32_1 (b o : Nat) (w : World) : (Instr.fieldAt 32 (.pointer (some ⟨b, o, none⟩)) 1).run Try.prog w = .ok (.pointer (some ⟨b, o + 1, none⟩)) w := by kernel_rfl
theorem T24 : Try.f24.ntmps = 18 := by kernel_rfl
theorem I32 : Sv.TI Try.prog 32 (.agg #[.int .u64 0, .int .u64 0]) 2 16 := by unfold Sv.TI; kernel_rfl
theorem B31 : Try.f31.body.isSome = true := by kernel_rfl
theorem N31 : (Try.f31.name == "runtime.NumGoroutine") = false := by kernel_rfl
theorem T27 : Try.f27.ntmps = 17 := by kernel_rfl
end Go.Proofs.Ythdpojggdodpfaa
set_option linter.unusedSimpArgs false
set_option linter.unusedVariables false
namespace Go.Proofs.Ythdpojggdodpfaa
open Go
theorem T48 : Try.f48.ntmps = 15 := by kernel_rfl
theorem I78 : Sv.TI Try.prog 78 (.pointer none) 1 8 := by unfold Sv.TI; kernel_rfl
theorem F77_0 (b o : Nat) (w : World) : (Instr.fieldAt 77 (.pointer (some ⟨b, o, none⟩)) 0).run Try.prog w = .ok (.pointer (some ⟨b, o, none⟩)) w := by kernel_rfl
theorem T47 : Try.f47.ntmps = 26 := by kernel_rfl
theorem B48 : Try.f48.body.isSome = true := by kernel_rfl
theorem N48 : (Try.f48.name == "runtime.NumGoroutine") = false := by kernel_rfl
theorem T26 : Try.f26.ntmps = 18 := by kernel_rfl
theorem F71_0 (b o : Nat) (w : World) : (Instr.fieldAt 71 (.pointer (some ⟨b, o, none⟩)) 0).run Try.prog w = .ok (.pointer (some ⟨b, o, none⟩)) w := by kernel_rfl
theorem I67 : Sv.TI Try.prog 67 (.slice none 0 0) 1 24 := by unfold Sv.TI; kernel_rfl
theorem B47 : Try.f47.body.isSome = true := by kernel_rfl
theorem N47 : (Try.f47.name == "runtime.NumGoroutine") = false := by kernel_rfl
theorem T30 : Try.f30.ntmps = 50 := by kernel_rfl
theorem B23 : Try.f23.body.isSome = true := by kernel_rfl
theorem N23 : (Try.f23.name == "runtime.NumGoroutine") = false := by kernel_rfl
theorem B26 : Try.f26.body.isSome = true := by kernel_rfl
theorem N26 : (Try.f26.name == "runtime.NumGoroutine") = false := by kernel_rfl
end Go.Proofs.Ythdpojggdodpfaa
set_option linter.unusedSimpArgs false
set_option linter.unusedVariables false
namespace Go.Proofs.Ythdpojggdodpfaa
open Go
theorem T15 : Try.f15.ntmps = 18 := by kernel_rfl
theorem B30 : Try.f30.body.isSome = true := by kernel_rfl
theorem N30 : (Try.f30.name == "runtime.NumGoroutine") = false := by kernel_rfl
theorem F77_1 (b o : Nat) (w : World) : (Instr.fieldAt 77 (.pointer (some ⟨b, o, none⟩)) 1).run Try.prog w = .ok (.pointer (some ⟨b, o + 2, none⟩)) w := by kernel_rfl
theorem T8 : Try.f8.ntmps = 3 := by kernel_rfl
theorem Bd71_  (w : World) : (Instr.build 71 [].toArray).run Try.prog w = .ok (.agg [.slice none 0 0, .slice none 0 0, .slice none 0 0, .int .i64 0, .bool false, .bool false, .bool false, .bool false, .bool false, .bool false, .bool false, .bool false, .bool false, .bool false, .bool false, .bool false, .bool false, .bool false, .bool false, .bool false, .bool false, .bool false, .bool false, .bool false, .bool false, .bool false, .bool false, .bool false, .bool false, .bool false, .bool false, .bool false, .bool false, .bool false, .bool false, .bool false, .bool false, .bool false, .bool false, .bool false, .bool false, .bool false, .bool false, .bool false, .bool false, .bool false, .bool false, .bool false, .bool false, .bool false, .bool false, .bool false, .bool false, .bool false, .bool false, .bool false, .bool false, .bool false, .bool false, .bool false, .bool false, .bool false, .bool false, .bool false, .bool false, .bool false, .bool false, .bool false, .bool false, .bool false, .bool false, .bool false, .bool false, .bool false, .bool false, .bool false, .bool false, .bool false, .bool false, .bool false, .bool false, .bool false, .bool false, .bool false, .bool false, .bool false, .bool false, .bool false, .bool false, .bool false, .bool false, .bool false, .bool false, .bool false, .bool false, .bool false, .bool false, .bool false, .bool false, .bool false, .bool false, .bool false, .bool false, .bool false, .bool false, .bool false, .bool false, .bool false, .bool false, .bool false, .bool false, .bool false, .bool false, .bool false, .bool false, .bool false, .bool false, .bool false, .bool false, .bool false, .bool false, .bool false, .bool false, .bool false, .bool false, .bool false, .bool false, .bool false, .bool false, .bool false, .bool false, .bool false, .bool false, .bool false, .bool false, .bool false, .bool false, .bool false, .bool false, .bool false, .bool false, .bool false, .bool false, .bool false, .bool false, .bool false, .bool false, .bool false, .bool false, .bool false, .bool false, .bool false, .bool false, .bool false, .bool false, .bool false, .bool false, .bool false, .bool false, .bool false, .bool false, .bool false, .bool false, .bool false, .bool false, .bool false, .bool false, .bool false, .bool false, .bool false, .bool false, .bool false, .bool false, .bool false, .bool false, .bool false, .bool false, .bool false, .bool false, .bool false, .bool false, .bool false, .bool false, .bool false, .bool false, .bool false, .bool false, .bool false, .bool false, .bool false, .bool false, .bool false, .bool false, .bool false, .bool false, .bool false, .bool false, .bool false, .bool false, .bool false, .bool false, .bool false, .bool false, .bool false, .bool false, .bool false, .bool false, .bool false, .bool false, .bool false, .bool false, .bool false, .bool false, .bool false, .bool false, .bool false, .bool false, .bool false, .bool false, .bool false, .bool false, .bool false, .bool false, .bool false, .bool false, .bool false, .bool false, .bool false, .bool false, .bool false, .bool false, .bool false, .bool false, .bool false, .bool false, .bool false, .bool false, .bool false, .bool false, .bool false, .bool false, .bool false, .bool false, .bool false, .bool false, .bool false, .bool false, .bool false, .bool false, .bool false, .bool false, .bool false, .bool false, .bool false, .bool false, .bool false, .bool false, .bool false, .bool false, .bool false, .slice none 0 0, .slice none 0 0].toArray) w := by kernel_rfl
theorem I4 : Sv.TI Try.prog 4 (.bool false) 1 1 := by unfold Sv.TI; kernel_rfl
theorem T12 : Try.f12.ntmps = 16 := by kernel_rfl
theorem B25 : Try.f25.body.isSome = true := by kernel_rfl
theorem N25 : (Try.f25.name == "runtime.NumGoroutine") = false := by kernel_rfl
theorem F71_2 (b o : Nat) (w : World) : (Instr.fieldAt 71 (.pointer (some ⟨b, o, none⟩)) 2).run Try.prog w = .ok (.pointer (some ⟨b, o + 4, none⟩)) w := by kernel_rfl
theorem T45 : Try.f45.ntmps = 15 := by kernel_rfl
theorem I54 : Sv.TI Try.prog 54 (.slice none 0 0) 1 24 := by unfold Sv.TI; kernel_rfl
theorem T21 : Try.f21.ntmps = 12 := by kernel_rfl
theorem F71_4 (b o : Nat) (w : World) : (Instr.fieldAt 71 (.pointer (some ⟨b, o, none⟩)) 4).run Try.prog w = .ok (.pointer (some ⟨b, o + 261, none⟩)) w := by kernel_rfl
theorem I69 : Sv.TI Try.prog 69 (.slice none 0 0) 1 24 := by unfold Sv.TI; kernel_rfl
theorem T16 : Try.f16.ntmps = 44 := by kernel_rfl
theorem B24 : Try.f24.body.isSome = true := by kernel_rfl
theorem N24 : (Try.f24.name == "runtime.NumGoroutine") = false := by kernel_rfl
theorem F71_3 (b o : Nat) (w : World) : (Instr.fieldAt 71 (.pointer (some ⟨b, o, none⟩)) 3).run Try.prog w = .ok (.pointer (some ⟨b, o + 260, none⟩)) w := by kernel_rfl
theorem Bd86_0_1_2 (x0 : Int) (x10 x11 : Value) (x2 : Int) (w : World) : (Instr.build 86 [(0, .int .i64 x0), (1, .agg #[x10, x11]), (2, .int .i64 x2)].toArray).run Try.prog w = .ok (.agg [.int .i64 x0, x10, x11, .int .i64 x2].toArray) w := by kernel_rfl
theorem Bs69_1_0 (x00 x01 x02 x03 : Value) (w : World) : (Instr.buildSlice 69 1 [(0, .agg #[x00, x01, x02, x03])].toArray).run Try.prog w = .ok (.slice (some ⟨w.heap.size, 0, none⟩) 1 1) (w.alloc (.cells [x00, x01, x02, x03].toArray 86)) := by kernel_rfl
theorem I86 : Sv.TI Try.prog 86 (.agg #[.int .i64 0, .int .u64 0, .int .u64 0, .int .i64 0]) 4 32 := by unfold Sv.TI; kernel_rfl
end Go.Proofs.Ythdpojggdodpfaa
set_option linter.unusedSimpArgs false
set_option linter.unusedVariables false
namespace Go.Proofs.Ythdpojggdodpfaa
open Go
theorem X49a : (Try.f49.name == "runtime.NumGoroutine") = false := by kernel_rfl
theorem X49b : Try.f49.body.isNone = true := by kernel_rfl
theorem X49c : Extern.findNext Try.f49 = none := by kernel_rfl
theorem X49d : Extern.find Try.f49 = some (Extern.SlicesOverlaps.overlaps #[67, 67] #[4]) := by kernel_rfl
theorem T28 : Try.f28.ntmps = 95 := by kernel_rfl
end Go.Proofs.Ythdpojggdodpfaa
set_option linter.unusedSimpArgs false
set_option linter.unusedVariables false
namespace Go.Proofs.Ythdpojggdodpfaa
open Go
theorem I3 : Sv.TI Try.prog 3 (.int .i64 0) 1 8 := by unfold Sv.TI; kernel_rfl
theorem T11 : Try.f11.ntmps = 83 := by kernel_rfl
theorem B27 : Try.f27.body.isSome = true := by kernel_rfl
theorem N27 : (Try.f27.name == "runtime.NumGoroutine") = false := by kernel_rfl
theorem F71_1 (b o : Nat) (w : World) : (Instr.fieldAt 71 (.pointer (some ⟨b, o, none⟩)) 1).run Try.prog w = .ok (.pointer (some ⟨b, o + 3, none⟩)) w := by kernel_rfl
theorem Bd77_0_1 (x00 x01 : Value) (x1 : Int) (w : World) : (Instr.build 77 [(0, .agg #[x00, x01]), (1, .int .i64 x1)].toArray).run Try.prog w = .ok (.agg [x00, x01, .int .i64 x1, .slice none 0 0].toArray) w := by kernel_rfl
theorem Bs67_1_0 (x0 : Option Addr) (w : World) : (Instr.buildSlice 67 1 [(0, .pointer x0)].toArray).run Try.prog w = .ok (.slice (some ⟨w.heap.size, 0, none⟩) 1 1) (w.alloc (.cells [.pointer x0].toArray 78)) := by kernel_rfl
theorem B28 : Try.f28.body.isSome = true := by kernel_rfl
theorem N28 : (Try.f28.name == "runtime.NumGoroutine") = false := by kernel_rfl
end Go.Proofs.Ythdpojggdodpfaa
set_option linter.unusedSimpArgs false
set_option linter.unusedVariables false
namespace Go.Proofs.Ythdpojggdodpfaa
open Go
theorem T34 : Try.f34.ntmps = 42 := by kernel_rfl
theorem F77_2 (b o : Nat) (w : World) : (Instr.fieldAt 77 (.pointer (some ⟨b, o, none⟩)) 2).run Try.prog w = .ok (.pointer (some ⟨b, o + 3, none⟩)) w := by kernel_rfl
theorem I5 : Sv.TI Try.prog 5 (.int .u8 0) 1 1 := by unfold Sv.TI; kernel_rfl
theorem T33 : Try.f33.ntmps = 48 := by kernel_rfl
theorem I23 : Sv.TI Try.prog 23 (.slice none 0 0) 1 24 := by unfold Sv.TI; kernel_rfl
end Go.Proofs.Ythdpojggdodpfaa
set_option linter.unusedSimpArgs false
set_option linter.unusedVariables false
namespace Go.Proofs.Ythdpojggdodpfaa
open Go
theorem T51 : Try.f51.ntmps = 33 := by kernel_rfl
theorem T29 : Try.f29.ntmps = 22 := by kernel_rfl
theorem F37_2 (b o : Nat) (w : World) : (Instr.fieldAt 37 (.pointer (some ⟨b, o, none⟩)) 2).run Try.prog w = .ok (.pointer (some ⟨b, o + 2, none⟩)) w := by kernel_rfl
theorem F37_0 (b o : Nat) (w : World) : (Instr.fieldAt 37 (.pointer (some ⟨b, o, none⟩)) 0).run Try.prog w = .ok (.pointer (some ⟨b, o, none⟩)) w := by kernel_rfl
theorem F37_1 (b o : Nat) (w : World) : (Instr.fieldAt 37 (.pointer (some ⟨b, o, none⟩)) 1).run Try.prog w = .ok (.pointer (some ⟨b, o + 1, none⟩)) w := by kernel_rfl
theorem T32 : Try.f32.ntmps = 62 := by kernel_rfl
theorem Bd32_0_1 (x0 : Int) (x1 : Int) (w : World) : (Instr.build 32 [(0, .int .u64 x0), (1, .int .u64 x1)].toArray).run Try.prog w = .ok (.agg [.int .u64 x0, .int .u64 x1].toArray) w := by kernel_rfl
theorem F86_0 (b o : Nat) (w : World) : (Instr.fieldAt 86 (.pointer (some ⟨b, o, none⟩)) 0).run Try.prog w = .ok (.pointer (some ⟨b, o, none⟩)) w := by kernel_rfl
theorem F86_1 (b o : Nat) (w : World) : (Instr.fieldAt 86 (.pointer (some ⟨b, o, none⟩)) 1).run Try.prog w = .ok (.pointer (some ⟨b, o + 1, none⟩)) w := by kernel_rfl
theorem F86_2 (b o : Nat) (w : World) : (Instr.fieldAt 86 (.pointer (some ⟨b, o, none⟩)) 2).run Try.prog w = .ok (.pointer (some ⟨b, o + 3, none⟩)) w := by kernel_rfl
theorem B51 : Try.f51.body.isSome = true := by kernel_rfl
theorem N51 : (Try.f51.name == "runtime.NumGoroutine") = false := by kernel_rfl
end Go.Proofs.Ythdpojggdodpfaa
set_option linter.unusedSimpArgs false
set_option linter.unusedVariables false
namespace Go.Proofs.Ythdpojggdodpfaa
open Go
theorem T13 : Try.f13.ntmps = 130 := by kernel_rfl
theorem I37 : Sv.TI Try.prog 37 (.agg #[.int .i64 0, .int .u64 0, .int .i64 0, .bool false, .int .u64 0]) 5 40 := by unfold Sv.TI; kernel_rfl
theorem B29 : Try.f29.body.isSome = true := by kernel_rfl
theorem N29 : (Try.f29.name == "runtime.NumGoroutine") = false := by kernel_rfl
theorem Bd63_0_1 (x00 x01 x02 x03 x04 : Value) (x1 : Int) (w : World) : (Instr.build 63 [(0, .agg #[x00, x01, x02, x03, x04]), (1, .int .i64 x1)].toArray).run Try.prog w = .ok (.agg [x00, x01, x02, x03, x04, .int .i64 x1, .bool false, .bool false].toArray) w := by kernel_rfl
theorem I63 : Sv.TI Try.prog 63 (.agg #[.int .i64 0, .int .u64 0, .int .i64 0, .bool false, .int .u64 0, .int .i64 0, .bool false, .bool false]) 8 56 := by unfold Sv.TI; kernel_rfl
theorem F63_1 (b o : Nat) (w : World) : (Instr.fieldAt 63 (.pointer (some ⟨b, o, none⟩)) 1).run Try.prog w = .ok (.pointer (some ⟨b, o + 5, none⟩)) w := by kernel_rfl
theorem F63_2 (b o : Nat) (w : World) : (Instr.fieldAt 63 (.pointer (some ⟨b, o, none⟩)) 2).run Try.prog w = .ok (.pointer (some ⟨b, o + 6, none⟩)) w := by kernel_rfl
theorem B32 : Try.f32.body.isSome = true := by kernel_rfl
theorem N32 : (Try.f32.name == "runtime.NumGoroutine") = false := by kernel_rfl
theorem F63_3 (b o : Nat) (w : World) : (Instr.fieldAt 63 (.pointer (some ⟨b, o, none⟩)) 3).run Try.prog w = .ok (.pointer (some ⟨b, o + 7, none⟩)) w := by kernel_rfl
theorem F37_3 (b o : Nat) (w : World) : (Instr.fieldAt 37 (.pointer (some ⟨b, o, none⟩)) 3).run Try.prog w = .ok (.pointer (some ⟨b, o + 3, none⟩)) w := by kernel_rfl
theorem F37_4 (b o : Nat) (w : World) : (Instr.fieldAt 37 (.pointer (some ⟨b, o, none⟩)) 4).run Try.prog w = .ok (.pointer (some ⟨b, o + 4, none⟩)) w := by kernel_rfl
theorem F63_0 (b o : Nat) (w : World) : (Instr.fieldAt 63 (.pointer (some ⟨b, o, none⟩)) 0).run Try.prog w = .ok (.pointer (some ⟨b, o, none⟩)) w := by kernel_rfl
theorem I22 : Sv.TI Try.prog 22 (.int .u64 0) 1 8 := by unfold Sv.TI; kernel_rfl
theorem B33 : Try.f33.body.isSome = true := by kernel_rfl
theorem N33 : (Try.f33.name == "runtime.NumGoroutine") = false := by kernel_rfl
theorem B34 : Try.f34.body.isSome = true := by kernel_rfl
theorem N34 : (Try.f34.name == "runtime.NumGoroutine") = false := by kernel_rfl
theorem Bs54_1_0 (x00 x01 x02 x03 x04 x05 x06 x07 : Value) (w : World) : (Instr.buildSlice 54 1 [(0, .agg #[x00, x01, x02, x03, x04, x05, x06, x07])].toArray).run Try.prog w = .ok (.slice (some ⟨w.heap.size, 0, none⟩) 1 1) (w.alloc (.cells [x00, x01, x02, x03, x04, x05, x06, x07].toArray 63)) := by kernel_rfl
end Go.Proofs.Ythdpojggdodpfaa
set_option linter.unusedSimpArgs false
set_option linter.unusedVariables false
namespace Go.Proofs.Ythdpojggdodpfaa
open Go
theorem T17 : Try.f17.ntmps = 19 := by kernel_rfl
theorem T9 : Try.f9.ntmps = 71 := by kernel_rfl
theorem B8 : Try.f8.body.isSome = true := by kernel_rfl
theorem N8 : (Try.f8.name == "runtime.NumGoroutine") = false := by kernel_rfl
theorem B11 : Try.f11.body.isSome = true := by kernel_rfl
theorem N11 : (Try.f11.name == "runtime.NumGoroutine") = false := by kernel_rfl
theorem Bd37_0_1_2 (x0 : Int) (x1 : Int) (x2 : Int) (w : World) : (Instr.build 37 [(0, .int .i64 x0), (1, .int .u64 x1), (2, .int .i64 x2)].toArray).run Try.prog w = .ok (.agg [.int .i64 x0, .int .u64 x1, .int .i64 x2, .bool false, .int .u64 0].toArray) w := by kernel_rfl
theorem B13 : Try.f13.body.isSome = true := by kernel_rfl
theorem N13 : (Try.f13.name == "runtime.NumGoroutine") = false := by kernel_rfl
theorem B12 : Try.f12.body.isSome = true := by kernel_rfl
theorem N12 : (Try.f12.name == "runtime.NumGoroutine") = false := by kernel_rfl
theorem B21 : Try.f21.body.isSome = true := by kernel_rfl
theorem N21 : (Try.f21.name == "runtime.NumGoroutine") = false := by kernel_rfl
end Go.Proofs.Ythdpojggdodpfaa
set_option linter.unusedSimpArgs false
set_option linter.unusedVariables false
namespace Go.Proofs.Ythdpojggdodpfaa
open Go
theorem T5 : Try.f5.ntmps = 94 := by kernel_rfl
theorem B9 : Try.f9.body.isSome = true := by kernel_rfl
theorem N9 : (Try.f9.name == "runtime.NumGoroutine") = false := by kernel_rfl
theorem B10 : Try.f10.body.isSome = true := by kernel_rfl
theorem N10 : (Try.f10.name == "runtime.NumGoroutine") = false := by kernel_rfl
theorem B16 : Try.f16.body.isSome = true := by kernel_rfl
theorem N16 : (Try.f16.name == "runtime.NumGoroutine") = false := by kernel_rfl
theorem Bd37_0_1_2_3_4 (x0 : Int) (x1 : Int) (x2 : Int) (x3 : Bool) (x4 : Int) (w : World) : (Instr.build 37 [(0, .int .i64 x0), (1, .int .u64 x1), (2, .int .i64 x2), (3, .bool x3), (4, .int .u64 x4)].toArray).run Try.prog w = .ok (.agg [.int .i64 x0, .int .u64 x1, .int .i64 x2, .bool x3, .int .u64 x4].toArray) w := by kernel_rfl
theorem B17 : Try.f17.body.isSome = true := by kernel_rfl
theorem N17 : (Try.f17.name == "runtime.NumGoroutine") = false := by kernel_rfl
end Go.Proofs.Ythdpojggdodpfaa
set_option linter.unusedSimpArgs false
set_option linter.unusedVariables false
namespace Go.Proofs.Ythdpojggdodpfaa
open Go
theorem T14 : Try.f14.ntmps = 8 := by kernel_rfl
theorem T3 : Try.f3.ntmps = 118 := by kernel_rfl
theorem Bs27_4_0_1_2_3 (x0 : Int) (x1 : Int) (x2 : Int) (x3 : Int) (w : World) : (Instr.buildSlice 27 4 [(0, .int .i64 x0), (1, .int .i64 x1), (2, .int .i64 x2), (3, .int .i64 x3)].toArray).run Try.prog w = .ok (.slice (some ⟨w.heap.size, 0, none⟩) 4 4) (w.alloc (.cells [.int .i64 x0, .int .i64 x1, .int .i64 x2, .int .i64 x3].toArray 3)) := by kernel_rfl
theorem B14 : Try.f14.body.isSome = true := by kernel_rfl
theorem N14 : (Try.f14.name == "runtime.NumGoroutine") = false := by kernel_rfl
end Go.Proofs.Ythdpojggdodpfaa
set_option linter.unusedSimpArgs false
set_option linter.unusedVariables false
namespace Go.Proofs.Ythdpojggdodpfaa
open Go
theorem T4 : Try.f4.ntmps = 92 := by kernel_rfl
theorem I41 : Sv.TI Try.prog 41 (.agg #[.int .i64 0, .int .i64 0, .int .i64 0, .int .i64 0, .int .i64 0, .int .i64 0, .int .i64 0, .int .i64 0, .int .i64 0, .int .i64 0, .int .i64 0, .int .i64 0, .int .i64 0, .int .i64 0, .int .i64 0, .int .i64 0, .int .i64 0, .int .i64 0, .int .i64 0, .int .i64 0, .int .i64 0, .int .i64 0, .int .i64 0, .int .i64 0, .int .i64 0, .int .i64 0, .int .i64 0, .int .i64 0, .int .i64 0, .int .i64 0, .int .i64 0, .int .i64 0, .int .i64 0, .int .i64 0, .int .i64 0, .int .i64 0, .int .i64 0, .int .i64 0, .int .i64 0, .int .i64 0, .int .i64 0, .int .i64 0, .int .i64 0, .int .i64 0, .int .i64 0, .int .i64 0, .int .i64 0, .int .i64 0, .int .i64 0, .int .i64 0, .int .i64 0, .int .i64 0, .int .i64 0, .int .i64 0, .int .i64 0, .int .i64 0, .int .i64 0, .int .i64 0, .int .i64 0, .int .i64 0, .int .i64 0, .int .i64 0, .int .i64 0, .int .i64 0, .int .i64 0, .int .i64 0, .int .i64 0, .int .i64 0, .int .i64 0, .int .i64 0, .int .i64 0, .int .i64 0, .int .i64 0, .int .i64 0, .int .i64 0, .int .i64 0, .int .i64 0, .int .i64 0, .int .i64 0, .int .i64 0, .int .i64 0, .int .i64 0, .int .i64 0, .int .i64 0, .int .i64 0, .int .i64 0, .int .i64 0, .int .i64 0, .int .i64 0, .int .i64 0, .int .i64 0, .int .i64 0, .int .i64 0, .int .i64 0, .int .i64 0, .int .i64 0, .int .i64 0, .int .i64 0, .int .i64 0, .int .i64 0, .int .i64 0, .int .i64 0, .int .i64 0, .int .i64 0, .int .i64 0, .int .i64 0, .int .i64 0, .int .i64 0, .int .i64 0, .int .i64 0, .int .i64 0, .int .i64 0, .int .i64 0, .int .i64 0, .int .i64 0, .int .i64 0, .int .i64 0, .int .i64 0, .int .i64 0, .int .i64 0, .int .i64 0, .int .i64 0, .int .i64 0, .int .i64 0, .int .i64 0, .int .i64 0, .int .i64 0, .int .i64 0]) 128 1024 := by unfold Sv.TI; kernel_rfl
theorem I43 : Sv.TI Try.prog 43 (.agg #[.int .i64 0, .int .i64 0, .int .u64 0, .int .u64 0, .int .i64 0, .int .i64 0, .bool false, .int .u64 0, .bool false]) 9 72 := by unfold Sv.TI; kernel_rfl
theorem F43_2 (b o : Nat) (w : World) : (Instr.fieldAt 43 (.pointer (some ⟨b, o, none⟩)) 2).run Try.prog w = .ok (.pointer (some ⟨b, o + 2, none⟩)) w := by kernel_rfl
theorem F43_3 (b o : Nat) (w : World) : (Instr.fieldAt 43 (.pointer (some ⟨b, o, none⟩)) 3).run Try.prog w = .ok (.pointer (some ⟨b, o + 3, none⟩)) w := by kernel_rfl
theorem B15 : Try.f15.body.isSome = true := by kernel_rfl
theorem N15 : (Try.f15.name == "runtime.NumGoroutine") = false := by kernel_rfl
end Go.Proofs.Ythdpojggdodpfaa
set_option linter.unusedSimpArgs false
set_option linter.unusedVariables false
namespace Go.Proofs.Ythdpojggdodpfaa
open Go
theorem T55 : Try.f55.ntmps = 33 := by kernel_rfl
theorem T36 : Try.f36.ntmps = 51 := by kernel_rfl
theorem EG32neq (x y : Operand) (xs ys : Array Value) (w : World) : (eqGuard .neq 32 x y (.agg xs) (.agg ys)).run Try.prog w = .ok () w := by kernel_rfl
theorem SI32 : Try.prog.stoodInHeld 32 = false := by kernel_rfl
theorem SEQ32 (d : Nat) (x0 : Int) (y0 : Int) (x1 : Int) (y1 : Int) (w : World) : (Op.equalIn (d + 2) 32 (.agg #[.int .u64 x0, .int .u64 x1]) (.agg #[.int .u64 y0, .int .u64 y1])).run Try.prog w = .ok (decide (x0 = y0 ∧ x1 = y1)) w := by
  have p0 : ∀ w, (part 22 #[.int .u64 x0, .int .u64 x1] 0).run Try.prog w = .ok (.int .u64 x0) w := fun w => by kernel_rfl
  have q0 : ∀ w, (part 22 #[.int .u64 y0, .int .u64 y1] 0).run Try.prog w = .ok (.int .u64 y0) w := fun w => by kernel_rfl
  have p1 : ∀ w, (part 22 #[.int .u64 x0, .int .u64 x1] 1).run Try.prog w = .ok (.int .u64 x1) w := fun w => by kernel_rfl
  have q1 : ∀ w, (part 22 #[.int .u64 y0, .int .u64 y1] 1).run Try.prog w = .ok (.int .u64 y1) w := fun w => by kernel_rfl
  rw [Op.equalIn]
  simp only [Sem.run_bind, run_underlying Try.underlying32, Result.andThen_ok]
  simp [SI32, p0, q0, p1, q1, Sv.equalIn_int d Try.underlying22]
  (repeat' split) <;> simp_all
theorem EQ32neq (x0 : Int) (x1 : Int) (y0 : Int) (y1 : Int) (w : World) : (binOp .neq 32 (.agg #[.int .u64 x0, .int .u64 x1]) (.agg #[.int .u64 y0, .int .u64 y1])).run Try.prog w = .ok (.bool (decide (¬ (x0 = y0 ∧ x1 = y1)))) w :=
  Sv.run_neq_of (p := x0 = y0 ∧ x1 = y1) (fun _ _ => by simp) (fun _ => by simp) (fun _ _ => by simp) (fun _ _ _ => by simp) (fun w => SEQ32 9998 x0 y0 x1 y1 w) w
theorem B55 : Try.f55.body.isSome = true := by kernel_rfl
theorem N55 : (Try.f55.name == "runtime.NumGoroutine") = false := by kernel_rfl
theorem T40 : Try.f40.ntmps = 21 := by kernel_rfl
end Go.Proofs.Ythdpojggdodpfaa
set_option linter.unusedSimpArgs false
set_option linter.unusedVariables false
namespace Go.Proofs.Ythdpojggdodpfaa
open Go
theorem T52 : Try.f52.ntmps = 9 := by kernel_rfl
theorem T53 : Try.f53.ntmps = 20 := by kernel_rfl
theorem T60 : Try.f60.ntmps = 18 := by kernel_rfl
theorem T54 : Try.f54.ntmps = 15 := by kernel_rfl
theorem B60 : Try.f60.body.isSome = true := by kernel_rfl
theorem N60 : (Try.f60.name == "runtime.NumGoroutine") = false := by kernel_rfl
theorem T56 : Try.f56.ntmps = 40 := by kernel_rfl
theorem F56_0 (b o : Nat) (w : World) : (Instr.fieldAt 56 (.pointer (some ⟨b, o, none⟩)) 0).run Try.prog w = .ok (.pointer (some ⟨b, o, none⟩)) w := by kernel_rfl
theorem I94 : Sv.TI Try.prog 94 (.agg #[.int .i64 0, .int .u64 0, .int .u64 0, .int .i64 0, .slice none 0 0]) 5 56 := by unfold Sv.TI; kernel_rfl
theorem F94_0 (b o : Nat) (w : World) : (Instr.fieldAt 94 (.pointer (some ⟨b, o, none⟩)) 0).run Try.prog w = .ok (.pointer (some ⟨b, o, none⟩)) w := by kernel_rfl
theorem F94_1 (b o : Nat) (w : World) : (Instr.fieldAt 94 (.pointer (some ⟨b, o, none⟩)) 1).run Try.prog w = .ok (.pointer (some ⟨b, o + 1, none⟩)) w := by kernel_rfl
end Go.Proofs.Ythdpojggdodpfaa
set_option linter.unusedSimpArgs false
set_option linter.unusedVariables false
namespace Go.Proofs.Ythdpojggdodpfaa
open Go
theorem T44 : Try.f44.ntmps = 22 := by kernel_rfl
theorem B56 : Try.f56.body.isSome = true := by kernel_rfl
theorem N56 : (Try.f56.name == "runtime.NumGoroutine") = false := by kernel_rfl
theorem F94_2 (b o : Nat) (w : World) : (Instr.fieldAt 94 (.pointer (some ⟨b, o, none⟩)) 2).run Try.prog w = .ok (.pointer (some ⟨b, o + 3, none⟩)) w := by kernel_rfl
theorem T43 : Try.f43.ntmps = 36 := by kernel_rfl
theorem F94_3 (b o : Nat) (w : World) : (Instr.fieldAt 94 (.pointer (some ⟨b, o, none⟩)) 3).run Try.prog w = .ok (.pointer (some ⟨b, o + 4, none⟩)) w := by kernel_rfl
theorem T38 : Try.f38.ntmps = 19 := by kernel_rfl
theorem F56_1 (b o : Nat) (w : World) : (Instr.fieldAt 56 (.pointer (some ⟨b, o, none⟩)) 1).run Try.prog w = .ok (.pointer (some ⟨b, o + 1, none⟩)) w := by kernel_rfl
theorem T46 : Try.f46.ntmps = 19 := by kernel_rfl
theorem T22 : Try.f22.ntmps = 12 := by kernel_rfl
theorem F56_3 (b o : Nat) (w : World) : (Instr.fieldAt 56 (.pointer (some ⟨b, o, none⟩)) 3).run Try.prog w = .ok (.pointer (some ⟨b, o + 258, none⟩)) w := by kernel_rfl
end Go.Proofs.Ythdpojggdodpfaa
set_option linter.unusedSimpArgs false
set_option linter.unusedVariables false
namespace Go.Proofs.Ythdpojggdodpfaa
open Go
theorem T41 : Try.f41.ntmps = 39 := by kernel_rfl
theorem T57 : Try.f57.ntmps = 35 := by kernel_rfl
theorem B52 : Try.f52.body.isSome = true := by kernel_rfl
theorem N52 : (Try.f52.name == "runtime.NumGoroutine") = false := by kernel_rfl
theorem I53 : Sv.TI Try.prog 53 (.slice none 0 0) 1 24 := by unfold Sv.TI; kernel_rfl
theorem T39 : Try.f39.ntmps = 62 := by kernel_rfl
theorem B53 : Try.f53.body.isSome = true := by kernel_rfl
theorem N53 : (Try.f53.name == "runtime.NumGoroutine") = false := by kernel_rfl
theorem F56_2 (b o : Nat) (w : World) : (Instr.fieldAt 56 (.pointer (some ⟨b, o, none⟩)) 2).run Try.prog w = .ok (.pointer (some ⟨b, o + 257, none⟩)) w := by kernel_rfl
theorem I97 : Sv.TI Try.prog 97 (.agg #[.int .i64 0, .int .u64 0, .int .u64 0, .int .i64 0]) 4 32 := by unfold Sv.TI; kernel_rfl
theorem F97_2 (b o : Nat) (w : World) : (Instr.fieldAt 97 (.pointer (some ⟨b, o, none⟩)) 2).run Try.prog w = .ok (.pointer (some ⟨b, o + 3, none⟩)) w := by kernel_rfl
theorem Bd97_0_1_2 (x0 : Int) (x10 x11 : Value) (x2 : Int) (w : World) : (Instr.build 97 [(0, .int .i64 x0), (1, .agg #[x10, x11]), (2, .int .i64 x2)].toArray).run Try.prog w = .ok (.agg [.int .i64 x0, x10, x11, .int .i64 x2].toArray) w := by kernel_rfl
theorem Bs53_1_0 (x00 x01 x02 x03 : Value) (w : World) : (Instr.buildSlice 53 1 [(0, .agg #[x00, x01, x02, x03])].toArray).run Try.prog w = .ok (.slice (some ⟨w.heap.size, 0, none⟩) 1 1) (w.alloc (.cells [x00, x01, x02, x03].toArray 97)) := by kernel_rfl
end Go.Proofs.Ythdpojggdodpfaa
set_option linter.unusedSimpArgs false
set_option linter.unusedVariables false
namespace Go.Proofs.Ythdpojggdodpfaa
open Go
theorem T58 : Try.f58.ntmps = 56 := by kernel_rfl
theorem F97_0 (b o : Nat) (w : World) : (Instr.fieldAt 97 (.pointer (some ⟨b, o, none⟩)) 0).run Try.prog w = .ok (.pointer (some ⟨b, o, none⟩)) w := by kernel_rfl
theorem F97_1 (b o : Nat) (w : World) : (Instr.fieldAt 97 (.pointer (some ⟨b, o, none⟩)) 1).run Try.prog w = .ok (.pointer (some ⟨b, o + 1, none⟩)) w := by kernel_rfl
theorem B54 : Try.f54.body.isSome = true := by kernel_rfl
theorem N54 : (Try.f54.name == "runtime.NumGoroutine") = false := by kernel_rfl
end Go.Proofs.Ythdpojggdodpfaa
set_option linter.unusedSimpArgs false
set_option linter.unusedVariables false
namespace Go.Proofs.Ythdpojggdodpfaa
open Go
theorem I51 : Sv.TI Try.prog 51 (.slice none 0 0) 1 24 := by unfold Sv.TI; kernel_rfl
theorem T35 : Try.f35.ntmps = 79 := by kernel_rfl
theorem Bd94_0_1_2_3 (x0 : Int) (x10 x11 : Value) (x2 : Int) (x3 : Option Addr) (x3n x3c : Nat) (w : World) : (Instr.build 94 [(0, .int .i64 x0), (1, .agg #[x10, x11]), (2, .int .i64 x2), (3, .slice x3 x3n x3c)].toArray).run Try.prog w = .ok (.agg [.int .i64 x0, x10, x11, .int .i64 x2, .slice x3 x3n x3c].toArray) w := by kernel_rfl
theorem Bs51_1_0 (x00 x01 x02 x03 x04 : Value) (w : World) : (Instr.buildSlice 51 1 [(0, .agg #[x00, x01, x02, x03, x04])].toArray).run Try.prog w = .ok (.slice (some ⟨w.heap.size, 0, none⟩) 1 1) (w.alloc (.cells [x00, x01, x02, x03, x04].toArray 94)) := by kernel_rfl
end Go.Proofs.Ythdpojggdodpfaa
set_option linter.unusedSimpArgs false
set_option linter.unusedVariables false
namespace Go.Proofs.Ythdpojggdodpfaa
open Go
theorem T37 : Try.f37.ntmps = 57 := by kernel_rfl
theorem EG32eql (x y : Operand) (xs ys : Array Value) (w : World) : (eqGuard .eql 32 x y (.agg xs) (.agg ys)).run Try.prog w = .ok () w := by kernel_rfl
theorem EQ32eql (x0 : Int) (x1 : Int) (y0 : Int) (y1 : Int) (w : World) : (binOp .eql 32 (.agg #[.int .u64 x0, .int .u64 x1]) (.agg #[.int .u64 y0, .int .u64 y1])).run Try.prog w = .ok (.bool (decide (x0 = y0 ∧ x1 = y1))) w :=
  Sv.run_eql_of (p := x0 = y0 ∧ x1 = y1) (fun _ _ => by simp) (fun _ => by simp) (fun _ _ => by simp) (fun _ _ _ => by simp) (fun w => SEQ32 9998 x0 y0 x1 y1 w) w
end Go.Proofs.Ythdpojggdodpfaa
set_option linter.unusedSimpArgs false
set_option linter.unusedVariables false
namespace Go.Proofs.Ythdpojggdodpfaa
open Go
theorem T42 : Try.f42.ntmps = 183 := by kernel_rfl
theorem B57 : Try.f57.body.isSome = true := by kernel_rfl
theorem N57 : (Try.f57.name == "runtime.NumGoroutine") = false := by kernel_rfl
theorem B44 : Try.f44.body.isSome = true := by kernel_rfl
theorem N44 : (Try.f44.name == "runtime.NumGoroutine") = false := by kernel_rfl
theorem Bd63_0_1_2 (x00 x01 x02 x03 x04 : Value) (x1 : Int) (x2 : Bool) (w : World) : (Instr.build 63 [(0, .agg #[x00, x01, x02, x03, x04]), (1, .int .i64 x1), (2, .bool x2)].toArray).run Try.prog w = .ok (.agg [x00, x01, x02, x03, x04, .int .i64 x1, .bool x2, .bool false].toArray) w := by kernel_rfl
theorem B58 : Try.f58.body.isSome = true := by kernel_rfl
theorem N58 : (Try.f58.name == "runtime.NumGoroutine") = false := by kernel_rfl
end Go.Proofs.Ythdpojggdodpfaa
set_option linter.unusedSimpArgs false
set_option linter.unusedVariables false
namespace Go.Proofs.Ythdpojggdodpfaa
open Go
theorem SI37 : Try.prog.stoodInHeld 37 = false := by kernel_rfl
theorem SEQ37 (d : Nat) (x0 : Int) (y0 : Int) (x1 : Int) (y1 : Int) (x2 : Int) (y2 : Int) (x3 : Bool) (y3 : Bool) (x4 : Int) (y4 : Int) (w : World) : (Op.equalIn (d + 2) 37 (.agg #[.int .i64 x0, .int .u64 x1, .int .i64 x2, .bool x3, .int .u64 x4]) (.agg #[.int .i64 y0, .int .u64 y1, .int .i64 y2, .bool y3, .int .u64 y4])).run Try.prog w = .ok (decide (x0 = y0 ∧ x1 = y1 ∧ x2 = y2 ∧ x3 = y3 ∧ x4 = y4)) w := by
  have p0 : ∀ w, (part 3 #[.int .i64 x0, .int .u64 x1, .int .i64 x2, .bool x3, .int .u64 x4] 0).run Try.prog w = .ok (.int .i64 x0) w := fun w => by kernel_rfl
  have q0 : ∀ w, (part 3 #[.int .i64 y0, .int .u64 y1, .int .i64 y2, .bool y3, .int .u64 y4] 0).run Try.prog w = .ok (.int .i64 y0) w := fun w => by kernel_rfl
  have p1 : ∀ w, (part 22 #[.int .i64 x0, .int .u64 x1, .int .i64 x2, .bool x3, .int .u64 x4] 1).run Try.prog w = .ok (.int .u64 x1) w := fun w => by kernel_rfl
  have q1 : ∀ w, (part 22 #[.int .i64 y0, .int .u64 y1, .int .i64 y2, .bool y3, .int .u64 y4] 1).run Try.prog w = .ok (.int .u64 y1) w := fun w => by kernel_rfl
  have p2 : ∀ w, (part 3 #[.int .i64 x0, .int .u64 x1, .int .i64 x2, .bool x3, .int .u64 x4] 2).run Try.prog w = .ok (.int .i64 x2) w := fun w => by kernel_rfl
  have q2 : ∀ w, (part 3 #[.int .i64 y0, .int .u64 y1, .int .i64 y2, .bool y3, .int .u64 y4] 2).run Try.prog w = .ok (.int .i64 y2) w := fun w => by kernel_rfl
  have p3 : ∀ w, (part 4 #[.int .i64 x0, .int .u64 x1, .int .i64 x2, .bool x3, .int .u64 x4] 3).run Try.prog w = .ok (.bool x3) w := fun w => by kernel_rfl
  have q3 : ∀ w, (part 4 #[.int .i64 y0, .int .u64 y1, .int .i64 y2, .bool y3, .int .u64 y4] 3).run Try.prog w = .ok (.bool y3) w := fun w => by kernel_rfl
  have p4 : ∀ w, (part 22 #[.int .i64 x0, .int .u64 x1, .int .i64 x2, .bool x3, .int .u64 x4] 4).run Try.prog w = .ok (.int .u64 x4) w := fun w => by kernel_rfl
  have q4 : ∀ w, (part 22 #[.int .i64 y0, .int .u64 y1, .int .i64 y2, .bool y3, .int .u64 y4] 4).run Try.prog w = .ok (.int .u64 y4) w := fun w => by kernel_rfl
  rw [Op.equalIn]
  simp only [Sem.run_bind, run_underlying Try.underlying37, Result.andThen_ok]
  simp [SI37, p0, q0, p1, q1, p2, q2, p3, q3, p4, q4, Sv.equalIn_bool d Try.underlying4, Sv.equalIn_int d Try.underlying22, Sv.equalIn_int d Try.underlying3]
  (repeat' split) <;> simp_all
theorem EG63neq (x y : Operand) (xs ys : Array Value) (w : World) : (eqGuard .neq 63 x y (.agg xs) (.agg ys)).run Try.prog w = .ok () w := by kernel_rfl
theorem SI63 : Try.prog.stoodInHeld 63 = false := by kernel_rfl
theorem SEQ63 (d : Nat) (x0 x1 x2 : Int) (x3 : Bool) (x4 x5 : Int) (x6 x7 : Bool) (w : World) : (Op.equalIn (d + 3) 63 (.agg #[.int .i64 x0, .int .u64 x1, .int .i64 x2, .bool x3, .int .u64 x4, .int .i64 x5, .bool x6, .bool x7]) (.agg #[.int .i64 x0, .int .u64 x1, .int .i64 x2, .bool x3, .int .u64 x4, .int .i64 x5, .bool x6, .bool x7])).run Try.prog w = .ok (decide True) w := by
  have p0 : ∀ w, (part 37 #[.int .i64 x0, .int .u64 x1, .int .i64 x2, .bool x3, .int .u64 x4, .int .i64 x5, .bool x6, .bool x7] 0).run Try.prog w = .ok (.agg #[.int .i64 x0, .int .u64 x1, .int .i64 x2, .bool x3, .int .u64 x4]) w := fun w => by kernel_rfl
  have p1 : ∀ w, (part 3 #[.int .i64 x0, .int .u64 x1, .int .i64 x2, .bool x3, .int .u64 x4, .int .i64 x5, .bool x6, .bool x7] 5).run Try.prog w = .ok (.int .i64 x5) w := fun w => by kernel_rfl
  have p2 : ∀ w, (part 4 #[.int .i64 x0, .int .u64 x1, .int .i64 x2, .bool x3, .int .u64 x4, .int .i64 x5, .bool x6, .bool x7] 6).run Try.prog w = .ok (.bool x6) w := fun w => by kernel_rfl
  have p3 : ∀ w, (part 4 #[.int .i64 x0, .int .u64 x1, .int .i64 x2, .bool x3, .int .u64 x4, .int .i64 x5, .bool x6, .bool x7] 7).run Try.prog w = .ok (.bool x7) w := fun w => by kernel_rfl
  rw [Op.equalIn]
  simp only [Sem.run_bind, run_underlying Try.underlying63, Result.andThen_ok]
  simp [SI63, p0, p1, p2, p3, SEQ37 d, Sv.equalIn_int (d + 1) Try.underlying3, Sv.equalIn_bool (d + 1) Try.underlying4]
theorem EQ63 (x0 x1 x2 : Int) (x3 : Bool) (x4 x5 : Int) (x6 x7 : Bool) (w : World) : (binOp .neq 63 (.agg #[.int .i64 x0, .int .u64 x1, .int .i64 x2, .bool x3, .int .u64 x4, .int .i64 x5, .bool x6, .bool x7]) (.agg #[.int .i64 x0, .int .u64 x1, .int .i64 x2, .bool x3, .int .u64 x4, .int .i64 x5, .bool x6, .bool x7])).run Try.prog w = .ok (.bool (decide (¬ True))) w :=
  Sv.run_neq_of (p := True) (fun _ _ => by simp) (fun _ => by simp) (fun _ _ => by simp) (fun _ _ _ => by simp) (fun w => SEQ63 9997 x0 x1 x2 x3 x4 x5 x6 x7 w) w
theorem T20 : Try.f20.ntmps = 26 := by kernel_rfl
theorem T19 : Try.f19.ntmps = 66 := by kernel_rfl
theorem F43_0 (b o : Nat) (w : World) : (Instr.fieldAt 43 (.pointer (some ⟨b, o, none⟩)) 0).run Try.prog w = .ok (.pointer (some ⟨b, o, none⟩)) w := by kernel_rfl
theorem F43_8 (b o : Nat) (w : World) : (Instr.fieldAt 43 (.pointer (some ⟨b, o, none⟩)) 8).run Try.prog w = .ok (.pointer (some ⟨b, o + 8, none⟩)) w := by kernel_rfl
theorem F43_1 (b o : Nat) (w : World) : (Instr.fieldAt 43 (.pointer (some ⟨b, o, none⟩)) 1).run Try.prog w = .ok (.pointer (some ⟨b, o + 1, none⟩)) w := by kernel_rfl
theorem Bs27_6_0_1_2_3_4_5 (x0 : Int) (x1 : Int) (x2 : Int) (x3 : Int) (x4 : Int) (x5 : Int) (w : World) : (Instr.buildSlice 27 6 [(0, .int .i64 x0), (1, .int .i64 x1), (2, .int .i64 x2), (3, .int .i64 x3), (4, .int .i64 x4), (5, .int .i64 x5)].toArray).run Try.prog w = .ok (.slice (some ⟨w.heap.size, 0, none⟩) 6 6) (w.alloc (.cells [.int .i64 x0, .int .i64 x1, .int .i64 x2, .int .i64 x3, .int .i64 x4, .int .i64 x5].toArray 3)) := by kernel_rfl
theorem F43_4 (b o : Nat) (w : World) : (Instr.fieldAt 43 (.pointer (some ⟨b, o, none⟩)) 4).run Try.prog w = .ok (.pointer (some ⟨b, o + 4, none⟩)) w := by kernel_rfl
theorem F43_5 (b o : Nat) (w : World) : (Instr.fieldAt 43 (.pointer (some ⟨b, o, none⟩)) 5).run Try.prog w = .ok (.pointer (some ⟨b, o + 5, none⟩)) w := by kernel_rfl
end Go.Proofs.Ythdpojggdodpfaa
set_option linter.unusedSimpArgs false
set_option linter.unusedVariables false
namespace Go.Proofs.Ythdpojggdodpfaa
open Go
theorem T18 : Try.f18.ntmps = 219 := by kernel_rfl
theorem F58_0 (b o : Nat) (w : World) : (Instr.fieldAt 58 (.pointer (some ⟨b, o, none⟩)) 0).run Try.prog w = .ok (.pointer (some ⟨b, o, none⟩)) w := by kernel_rfl
theorem F58_1 (b o : Nat) (w : World) : (Instr.fieldAt 58 (.pointer (some ⟨b, o, none⟩)) 1).run Try.prog w = .ok (.pointer (some ⟨b, o + 1, none⟩)) w := by kernel_rfl
theorem B35 : Try.f35.body.isSome = true := by kernel_rfl
theorem N35 : (Try.f35.name == "runtime.NumGoroutine") = false := by kernel_rfl
theorem B36 : Try.f36.body.isSome = true := by kernel_rfl
theorem N36 : (Try.f36.name == "runtime.NumGoroutine") = false := by kernel_rfl
theorem B37 : Try.f37.body.isSome = true := by kernel_rfl
theorem N37 : (Try.f37.name == "runtime.NumGoroutine") = false := by kernel_rfl
theorem F43_6 (b o : Nat) (w : World) : (Instr.fieldAt 43 (.pointer (some ⟨b, o, none⟩)) 6).run Try.prog w = .ok (.pointer (some ⟨b, o + 6, none⟩)) w := by kernel_rfl
theorem B38 : Try.f38.body.isSome = true := by kernel_rfl
theorem N38 : (Try.f38.name == "runtime.NumGoroutine") = false := by kernel_rfl
theorem B39 : Try.f39.body.isSome = true := by kernel_rfl
theorem N39 : (Try.f39.name == "runtime.NumGoroutine") = false := by kernel_rfl
theorem B22 : Try.f22.body.isSome = true := by kernel_rfl
theorem N22 : (Try.f22.name == "runtime.NumGoroutine") = false := by kernel_rfl
theorem B20 : Try.f20.body.isSome = true := by kernel_rfl
theorem N20 : (Try.f20.name == "runtime.NumGoroutine") = false := by kernel_rfl
theorem F43_7 (b o : Nat) (w : World) : (Instr.fieldAt 43 (.pointer (some ⟨b, o, none⟩)) 7).run Try.prog w = .ok (.pointer (some ⟨b, o + 7, none⟩)) w := by kernel_rfl
theorem B40 : Try.f40.body.isSome = true := by kernel_rfl
theorem N40 : (Try.f40.name == "runtime.NumGoroutine") = false := by kernel_rfl
theorem B41 : Try.f41.body.isSome = true := by kernel_rfl
theorem N41 : (Try.f41.name == "runtime.NumGoroutine") = false := by kernel_rfl
theorem B42 : Try.f42.body.isSome = true := by kernel_rfl
theorem N42 : (Try.f42.name == "runtime.NumGoroutine") = false := by kernel_rfl
theorem B43 : Try.f43.body.isSome = true := by kernel_rfl
theorem N43 : (Try.f43.name == "runtime.NumGoroutine") = false := by kernel_rfl
theorem B45 : Try.f45.body.isSome = true := by kernel_rfl
theorem N45 : (Try.f45.name == "runtime.NumGoroutine") = false := by kernel_rfl
theorem B46 : Try.f46.body.isSome = true := by kernel_rfl
theorem N46 : (Try.f46.name == "runtime.NumGoroutine") = false := by kernel_rfl
end Go.Proofs.Ythdpojggdodpfaa
set_option linter.unusedSimpArgs false
set_option linter.unusedVariables false
namespace Go.Proofs.Ythdpojggdodpfaa
open Go
theorem T6 : Try.f6.ntmps = 36 := by kernel_rfl
theorem Bd58_0_1 (x0 : Option Addr) (x1 : Option Addr) (w : World) : (Instr.build 58 [(0, .pointer x0), (1, .pointer x1)].toArray).run Try.prog w = .ok (.agg [.pointer x0, .pointer x1].toArray) w := by kernel_rfl
theorem I58 : Sv.TI Try.prog 58 (.agg #[.pointer none, .pointer none]) 2 16 := by unfold Sv.TI; kernel_rfl
theorem B19 : Try.f19.body.isSome = true := by kernel_rfl
theorem N19 : (Try.f19.name == "runtime.NumGoroutine") = false := by kernel_rfl
theorem B18 : Try.f18.body.isSome = true := by kernel_rfl
theorem N18 : (Try.f18.name == "runtime.NumGoroutine") = false := by kernel_rfl
end Go.Proofs.Ythdpojggdodpfaa
set_option linter.unusedSimpArgs false
set_option linter.unusedVariables false
namespace Go.Proofs.Ythdpojggdodpfaa
open Go
theorem T7 : Try.f7.ntmps = 186 := by kernel_rfl
theorem I65 : Sv.TI Try.prog 65 (.agg #[.int .u8 0, .int .u8 0, .int .u8 0, .int .u8 0, .int .u8 0, .int .u8 0, .int .u8 0, .int .u8 0]) 8 8 := by unfold Sv.TI; kernel_rfl
end Go.Proofs.Ythdpojggdodpfaa
