/-
  Facts off the tables of the program.
-/
import Derived.Test.YthdpojggdodpfaaProg
import Derived.Test.YthdpojggdodpfaaTab7
set_option linter.unusedSimpArgs false
set_option linter.unusedVariables false
namespace Go.Proofs.Ythdpojggdodpfaa
open Go
theorem T13 : Try.f13.ntmps = 130 := by kernel_rfl
theorem I37 : Sv.TI Try.prog 37 (.agg #[.int .i64 0, .int .u64 0, .int .i64 0, .bool false, .int .u64 0]) 5 40 := by unfold Sv.TI; kernel_rfl
theorem B29 : Try.f29.body.isSome = true := by kernel_rfl
theorem N29 : (Try.f29.name == "runtime.NumGoroutine") = false := by kernel_rfl
theorem Bd63_0_1 (x00 x01 x02 x03 x04 : Value) (x1 : Int) (w : World) : (Instr.build 63 [(0, .agg #[x00, x01, x02, x03, x04]), (1, .int .i64 x1)].toArray).run Try.prog w = .ok (.agg [x00, x01, x02, x03, x04, .int .i64 x1, .bool false, .bool false].toArray) w := by kernel_rfl
theorem I63 : Sv.TI Try.prog 63 (.agg #[.int .i64 0, .int .u64 0, .int .i64 0, .bool false, .int .u64 0, .int .i64 0, .bool false, .bool false]) 8 56 := by unfold Sv.TI; kernel_rfl
theorem F63_1 (b o : Nat) (w : World) : (Instr.fieldAt 63 (.pointer (some ⟨b, o, none⟩)) 1).run Try.prog w = .ok (.pointer (some ⟨b, o + 5, none⟩)) w := by kernel_rfl
theorem F63_2 (b o : Nat) (w : World) : (Instr.fieldAt 63 (.pointer (some ⟨b, o, none⟩)) 2).run Try.prog w = .ok (.pointer (some ⟨b, o + 6, none⟩)) w := by kernel_rfl
theorem B32 : Try.f32.body.isSome = true := by kernel_rfl
theorem N32 : (Try.f32.name == "runtime.NumGoroutine") = false := by kernel_rfl
theorem F63_3 (b o : Nat) (w : World) : (Instr.fieldAt 63 (.pointer (some ⟨b, o, none⟩)) 3).run Try.prog w = .ok (.pointer (some ⟨b, o + 7, none⟩)) w := by kernel_rfl
theorem F37_3 (b o : Nat) (w : World) : (Instr.fieldAt 37 (.pointer (some ⟨b, o, none⟩)) 3).run Try.prog w = .ok (.pointer (some ⟨b, o + 3, none⟩)) w := by kernel_rfl
theorem F37_4 (b o : Nat) (w : World) : (Instr.fieldAt 37 (.pointer (some ⟨b, o, none⟩)) 4).run Try.prog w = .ok (.pointer (some ⟨b, o + 4, none⟩)) w := by kernel_rfl
theorem F63_0 (b o : Nat) (w : World) : (Instr.fieldAt 63 (.pointer (some ⟨b, o, none⟩)) 0).run Try.prog w = .ok (.pointer (some ⟨b, o, none⟩)) w := by kernel_rfl
theorem I22 : Sv.TI Try.prog 22 (.int .u64 0) 1 8 := by unfold Sv.TI; kernel_rfl
theorem B33 : Try.f33.body.isSome = true := by kernel_rfl
theorem N33 : (Try.f33.name == "runtime.NumGoroutine") = false := by kernel_rfl
theorem B34 : Try.f34.body.isSome = true := by kernel_rfl
theorem N34 : (Try.f34.name == "runtime.NumGoroutine") = false := by kernel_rfl
theorem Bs54_1_0 (x00 x01 x02 x03 x04 x05 x06 x07 : Value) (w : World) : (Instr.buildSlice 54 1 [(0, .agg #[x00, x01, x02, x03, x04, x05, x06, x07])].toArray).run Try.prog w = .ok (.slice (some ⟨w.heap.size, 0, none⟩) 1 1) (w.alloc (.cells [x00, x01, x02, x03, x04, x05, x06, x07].toArray 63)) := by kernel_rfl
end Go.Proofs.Ythdpojggdodpfaa
