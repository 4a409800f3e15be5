/-
  Facts off the tables of the program.
-/
import Derived.Test.YthdpojggdodpfaaProg
import Derived.Test.YthdpojggdodpfaaTab2
set_option linter.unusedSimpArgs false
set_option linter.unusedVariables false
namespace Go.Proofs.Ythdpojggdodpfaa
open Go
theorem T15 : Try.f15.ntmps = 18 := by kernel_rfl
theorem B30 : Try.f30.body.isSome = true := by kernel_rfl
theorem N30 : (Try.f30.name == "runtime.NumGoroutine") = false := by kernel_rfl
theorem F77_1 (b o : Nat) (w : World) : (Instr.fieldAt 77 (.pointer (some ⟨b, o, none⟩)) 1).run Try.prog w = .ok (.pointer (some ⟨b, o + 2, none⟩)) w := by kernel_rfl
theorem T8 : Try.f8.ntmps = 3 := by kernel_rfl
theorem Bd71_  (w : World) : (Instr.build 71 [].toArray).run Try.prog w = .ok (.agg [.slice none 0 0, .slice none 0 0, .slice none 0 0, .int .i64 0, .bool false, .bool false, .bool false, .bool false, .bool false, .bool false, .bool false, .bool false, .bool false, .bool false, .bool false, .bool false, .bool false, .bool false, .bool false, .bool false, .bool false, .bool false, .bool false, .bool false, .bool false, .bool false, .bool false, .bool false, .bool false, .bool false, .bool false, .bool false, .bool false, .bool false, .bool false, .bool false, .bool false, .bool false, .bool false, .bool false, .bool false, .bool false, .bool false, .bool false, .bool false, .bool false, .bool false, .bool false, .bool false, .bool false, .bool false, .bool false, .bool false, .bool false, .bool false, .bool false, .bool false, .bool false, .bool false, .bool false, .bool false, .bool false, .bool false, .bool false, .bool false, .bool false, .bool false, .bool false, .bool false, .bool false, .bool false, .bool false, .bool false, .bool false, .bool false, .bool false, .bool false, .bool false, .bool false, .bool false, .bool false, .bool false, .bool false, .bool false, .bool false, .bool false, .bool false, .bool false, .bool false, .bool false, .bool false, .bool false, .bool false, .bool false, .bool false, .bool false, .bool false, .bool false, .bool false, .bool false, .bool false, .bool false, .bool false, .bool false, .bool false, .bool false, .bool false, .bool false, .bool false, .bool false, .bool false, .bool false, .bool false, .bool false, .bool false, .bool false, .bool false, .bool false, .bool false, .bool false, .bool false, .bool false, .bool false, .bool false, .bool false, .bool false, .bool false, .bool false, .bool false, .bool false, .bool false, .bool false, .bool false, .bool false, .bool false, .bool false, .bool false, .bool false, .bool false, .bool false, .bool false, .bool false, .bool false, .bool false, .bool false, .bool false, .bool false, .bool false, .bool false, .bool false, .bool false, .bool false, .bool false, .bool false, .bool false, .bool false, .bool false, .bool false, .bool false, .bool false, .bool false, .bool false, .bool false, .bool false, .bool false, .bool false, .bool false, .bool false, .bool false, .bool false, .bool false, .bool false, .bool false, .bool false, .bool false, .bool false, .bool false, .bool false, .bool false, .bool false, .bool false, .bool false, .bool false, .bool false, .bool false, .bool false, .bool false, .bool false, .bool false, .bool false, .bool false, .bool false, .bool false, .bool false, .bool false, .bool false, .bool false, .bool false, .bool false, .bool false, .bool false, .bool false, .bool false, .bool false, .bool false, .bool false, .bool false, .bool false, .bool false, .bool false, .bool false, .bool false, .bool false, .bool false, .bool false, .bool false, .bool false, .bool false, .bool false, .bool false, .bool false, .bool false, .bool false, .bool false, .bool false, .bool false, .bool false, .bool false, .bool false, .bool false, .bool false, .bool false, .bool false, .bool false, .bool false, .bool false, .bool false, .bool false, .bool false, .bool false, .bool false, .bool false, .bool false, .bool false, .bool false, .bool false, .bool false, .bool false, .bool false, .bool false, .bool false, .bool false, .bool false, .bool false, .bool false, .bool false, .bool false, .bool false, .bool false, .bool false, .slice none 0 0, .slice none 0 0].toArray) w := by kernel_rfl
theorem I4 : Sv.TI Try.prog 4 (.bool false) 1 1 := by unfold Sv.TI; kernel_rfl
theorem T12 : Try.f12.ntmps = 16 := by kernel_rfl
theorem B25 : Try.f25.body.isSome = true := by kernel_rfl
theorem N25 : (Try.f25.name == "runtime.NumGoroutine") = false := by kernel_rfl
theorem F71_2 (b o : Nat) (w : World) : (Instr.fieldAt 71 (.pointer (some ⟨b, o, none⟩)) 2).run Try.prog w = .ok (.pointer (some ⟨b, o + 4, none⟩)) w := by kernel_rfl
theorem T45 : Try.f45.ntmps = 15 := by kernel_rfl
theorem I54 : Sv.TI Try.prog 54 (.slice none 0 0) 1 24 := by unfold Sv.TI; kernel_rfl
theorem T21 : Try.f21.ntmps = 12 := by kernel_rfl
theorem F71_4 (b o : Nat) (w : World) : (Instr.fieldAt 71 (.pointer (some ⟨b, o, none⟩)) 4).run Try.prog w = .ok (.pointer (some ⟨b, o + 261, none⟩)) w := by kernel_rfl
theorem I69 : Sv.TI Try.prog 69 (.slice none 0 0) 1 24 := by unfold Sv.TI; kernel_rfl
theorem T16 : Try.f16.ntmps = 44 := by kernel_rfl
theorem B24 : Try.f24.body.isSome = true := by kernel_rfl
theorem N24 : (Try.f24.name == "runtime.NumGoroutine") = false := by kernel_rfl
theorem F71_3 (b o : Nat) (w : World) : (Instr.fieldAt 71 (.pointer (some ⟨b, o, none⟩)) 3).run Try.prog w = .ok (.pointer (some ⟨b, o + 260, none⟩)) w := by kernel_rfl
theorem Bd86_0_1_2 (x0 : Int) (x10 x11 : Value) (x2 : Int) (w : World) : (Instr.build 86 [(0, .int .i64 x0), (1, .agg #[x10, x11]), (2, .int .i64 x2)].toArray).run Try.prog w = .ok (.agg [.int .i64 x0, x10, x11, .int .i64 x2].toArray) w := by kernel_rfl
theorem Bs69_1_0 (x00 x01 x02 x03 : Value) (w : World) : (Instr.buildSlice 69 1 [(0, .agg #[x00, x01, x02, x03])].toArray).run Try.prog w = .ok (.slice (some ⟨w.heap.size, 0, none⟩) 1 1) (w.alloc (.cells [x00, x01, x02, x03].toArray 86)) := by kernel_rfl
theorem I86 : Sv.TI Try.prog 86 (.agg #[.int .i64 0, .int .u64 0, .int .u64 0, .int .i64 0]) 4 32 := by unfold Sv.TI; kernel_rfl
end Go.Proofs.Ythdpojggdodpfaa
