/-
  Facts off the tables of the program.
-/
import Derived.Test.YtcmalbkflbfidaaProg
import Derived.Test.YtcmalbkflbfidaaSv6
set_option linter.unusedSimpArgs false
set_option linter.unusedVariables false
namespace Go.Proofs.Ytcmalbkflbfidaa
open Go
theorem T35 : Try.f35.ntmps = 16 := by kernel_rfl
theorem F73_0 (b o : Nat) (w : World) : (Instr.fieldAt 73 (.pointer (some ⟨b, o, none⟩)) 0).run Try.prog w = .ok (.pointer (some ⟨b, o, none⟩)) w := by kernel_rfl
theorem T26 : Try.f26.ntmps = 16 := by kernel_rfl
theorem B35 : Try.f35.body.isSome = true := by kernel_rfl
theorem N35 : (Try.f35.name == "runtime.NumGoroutine") = false := by kernel_rfl
theorem F73_1 (b o : Nat) (w : World) : (Instr.fieldAt 73 (.pointer (some ⟨b, o, none⟩)) 1).run Try.prog w = .ok (.pointer (some ⟨b, o + 1, none⟩)) w := by kernel_rfl
theorem I3 : Sv.TI Try.prog 3 (.int .i64 0) 1 8 := by unfold Sv.TI; kernel_rfl
theorem T40 : Try.f40.ntmps = 22 := by kernel_rfl
theorem F73_3 (b o : Nat) (w : World) : (Instr.fieldAt 73 (.pointer (some ⟨b, o, none⟩)) 3).run Try.prog w = .ok (.pointer (some ⟨b, o + 3, none⟩)) w := by kernel_rfl
theorem T21 : Try.f21.ntmps = 27 := by kernel_rfl
theorem F73_2 (b o : Nat) (w : World) : (Instr.fieldAt 73 (.pointer (some ⟨b, o, none⟩)) 2).run Try.prog w = .ok (.pointer (some ⟨b, o + 2, none⟩)) w := by kernel_rfl
theorem I33 : Sv.TI Try.prog 33 (.int .u64 0) 1 8 := by unfold Sv.TI; kernel_rfl
theorem T22 : Try.f22.ntmps = 21 := by kernel_rfl
theorem B21 : Try.f21.body.isSome = true := by kernel_rfl
theorem N21 : (Try.f21.name == "runtime.NumGoroutine") = false := by kernel_rfl
theorem T41 : Try.f41.ntmps = 91 := by kernel_rfl
theorem I35 : Sv.TI Try.prog 35 (.agg #[.int .i64 0, .int .u64 0, .int .u64 0]) 3 24 := by unfold Sv.TI; kernel_rfl
theorem F35_0 (b o : Nat) (w : World) : (Instr.fieldAt 35 (.pointer (some ⟨b, o, none⟩)) 0).run Try.prog w = .ok (.pointer (some ⟨b, o, none⟩)) w := by kernel_rfl
theorem B41 : Try.f41.body.isSome = true := by kernel_rfl
theorem N41 : (Try.f41.name == "runtime.NumGoroutine") = false := by kernel_rfl
theorem F35_1 (b o : Nat) (w : World) : (Instr.fieldAt 35 (.pointer (some ⟨b, o, none⟩)) 1).run Try.prog w = .ok (.pointer (some ⟨b, o + 1, none⟩)) w := by kernel_rfl
theorem Bd45_0_1_2_3 (x0 : Int) (x1 : Bool) (x2 : Int) (x3 : Int) (w : World) : (Instr.build 45 [(0, .int .i64 x0), (1, .bool x1), (2, .int .u64 x2), (3, .int .u64 x3)].toArray).run Try.prog w = .ok (.agg [.int .i64 x0, .bool x1, .int .u64 x2, .int .u64 x3].toArray) w := by kernel_rfl
theorem Bs38_1_0 (x00 x01 x02 x03 : Value) (w : World) : (Instr.buildSlice 38 1 [(0, .agg #[x00, x01, x02, x03])].toArray).run Try.prog w = .ok (.slice (some ⟨w.heap.size, 0, none⟩) 1 1) (w.alloc (.cells [x00, x01, x02, x03].toArray 45)) := by kernel_rfl
theorem I45 : Sv.TI Try.prog 45 (.agg #[.int .i64 0, .bool false, .int .u64 0, .int .u64 0]) 4 32 := by unfold Sv.TI; kernel_rfl
theorem T42 : Try.f42.ntmps = 109 := by kernel_rfl
theorem F35_2 (b o : Nat) (w : World) : (Instr.fieldAt 35 (.pointer (some ⟨b, o, none⟩)) 2).run Try.prog w = .ok (.pointer (some ⟨b, o + 2, none⟩)) w := by kernel_rfl
theorem Bd45_0_2_3 (x0 : Int) (x2 : Int) (x3 : Int) (w : World) : (Instr.build 45 [(0, .int .i64 x0), (2, .int .u64 x2), (3, .int .u64 x3)].toArray).run Try.prog w = .ok (.agg [.int .i64 x0, .bool false, .int .u64 x2, .int .u64 x3].toArray) w := by kernel_rfl
theorem B42 : Try.f42.body.isSome = true := by kernel_rfl
theorem N42 : (Try.f42.name == "runtime.NumGoroutine") = false := by kernel_rfl
theorem T31 : Try.f31.ntmps = 21 := by kernel_rfl
theorem B40 : Try.f40.body.isSome = true := by kernel_rfl
theorem N40 : (Try.f40.name == "runtime.NumGoroutine") = false := by kernel_rfl
theorem T32 : Try.f32.ntmps = 60 := by kernel_rfl
end Go.Proofs.Ytcmalbkflbfidaa
