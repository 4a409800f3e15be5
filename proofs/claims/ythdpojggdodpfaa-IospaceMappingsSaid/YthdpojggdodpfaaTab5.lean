/-
  Facts off the tables of the program.
-/
import Derived.Test.YthdpojggdodpfaaProg
import Derived.Test.YthdpojggdodpfaaTab4
set_option linter.unusedSimpArgs false
set_option linter.unusedVariables false
namespace Go.Proofs.Ythdpojggdodpfaa
open Go
theorem I3 : Sv.TI Try.prog 3 (.int .i64 0) 1 8 := by unfold Sv.TI; kernel_rfl
theorem T11 : Try.f11.ntmps = 83 := by kernel_rfl
theorem B27 : Try.f27.body.isSome = true := by kernel_rfl
theorem N27 : (Try.f27.name == "runtime.NumGoroutine") = false := by kernel_rfl
theorem F71_1 (b o : Nat) (w : World) : (Instr.fieldAt 71 (.pointer (some ⟨b, o, none⟩)) 1).run Try.prog w = .ok (.pointer (some ⟨b, o + 3, none⟩)) w := by kernel_rfl
theorem Bd77_0_1 (x00 x01 : Value) (x1 : Int) (w : World) : (Instr.build 77 [(0, .agg #[x00, x01]), (1, .int .i64 x1)].toArray).run Try.prog w = .ok (.agg [x00, x01, .int .i64 x1, .slice none 0 0].toArray) w := by kernel_rfl
theorem Bs67_1_0 (x0 : Option Addr) (w : World) : (Instr.buildSlice 67 1 [(0, .pointer x0)].toArray).run Try.prog w = .ok (.slice (some ⟨w.heap.size, 0, none⟩) 1 1) (w.alloc (.cells [.pointer x0].toArray 78)) := by kernel_rfl
theorem B28 : Try.f28.body.isSome = true := by kernel_rfl
theorem N28 : (Try.f28.name == "runtime.NumGoroutine") = false := by kernel_rfl
end Go.Proofs.Ythdpojggdodpfaa
