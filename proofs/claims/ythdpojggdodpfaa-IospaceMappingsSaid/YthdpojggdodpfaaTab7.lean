/-
  Facts off the tables of the program.
-/
import Derived.Test.YthdpojggdodpfaaProg
import Derived.Test.YthdpojggdodpfaaTab6
set_option linter.unusedSimpArgs false
set_option linter.unusedVariables false
namespace Go.Proofs.Ythdpojggdodpfaa
open Go
theorem T51 : Try.f51.ntmps = 33 := by kernel_rfl
theorem T29 : Try.f29.ntmps = 22 := by kernel_rfl
theorem F37_2 (b o : Nat) (w : World) : (Instr.fieldAt 37 (.pointer (some ⟨b, o, none⟩)) 2).run Try.prog w = .ok (.pointer (some ⟨b, o + 2, none⟩)) w := by kernel_rfl
theorem F37_0 (b o : Nat) (w : World) : (Instr.fieldAt 37 (.pointer (some ⟨b, o, none⟩)) 0).run Try.prog w = .ok (.pointer (some ⟨b, o, none⟩)) w := by kernel_rfl
theorem F37_1 (b o : Nat) (w : World) : (Instr.fieldAt 37 (.pointer (some ⟨b, o, none⟩)) 1).run Try.prog w = .ok (.pointer (some ⟨b, o + 1, none⟩)) w := by kernel_rfl
theorem T32 : Try.f32.ntmps = 62 := by kernel_rfl
theorem Bd32_0_1 (x0 : Int) (x1 : Int) (w : World) : (Instr.build 32 [(0, .int .u64 x0), (1, .int .u64 x1)].toArray).run Try.prog w = .ok (.agg [.int .u64 x0, .int .u64 x1].toArray) w := by kernel_rfl
theorem F86_0 (b o : Nat) (w : World) : (Instr.fieldAt 86 (.pointer (some ⟨b, o, none⟩)) 0).run Try.prog w = .ok (.pointer (some ⟨b, o, none⟩)) w := by kernel_rfl
theorem F86_1 (b o : Nat) (w : World) : (Instr.fieldAt 86 (.pointer (some ⟨b, o, none⟩)) 1).run Try.prog w = .ok (.pointer (some ⟨b, o + 1, none⟩)) w := by kernel_rfl
theorem F86_2 (b o : Nat) (w : World) : (Instr.fieldAt 86 (.pointer (some ⟨b, o, none⟩)) 2).run Try.prog w = .ok (.pointer (some ⟨b, o + 3, none⟩)) w := by kernel_rfl
theorem B51 : Try.f51.body.isSome = true := by kernel_rfl
theorem N51 : (Try.f51.name == "runtime.NumGoroutine") = false := by kernel_rfl
end Go.Proofs.Ythdpojggdodpfaa
