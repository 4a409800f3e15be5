/-
  Facts off the tables of the program.
-/
import Derived.Test.YthdpojggdodpfaaProg
import Derived.Test.YthdpojggdodpfaaSv14
set_option linter.unusedSimpArgs false
set_option linter.unusedVariables false
namespace Go.Proofs.Ythdpojggdodpfaa
open Go
theorem T10 : Try.f10.ntmps = 11 := by kernel_rfl
theorem T23 : Try.f23.ntmps = 9 := by kernel_rfl
theorem T25 : Try.f25.ntmps = 9 := by kernel_rfl
theorem T31 : Try.f31.ntmps = 9 := by kernel_rfl
theorem F32_0 (b o : Nat) (w : World) : (Instr.fieldAt 32 (.pointer (some ⟨b, o, none⟩)) 0).run Try.prog w = .ok (.pointer (some ⟨b, o, none⟩)) w := by kernel_rfl
theorem F32_1 (b o : Nat) (w : World) : (Instr.fieldAt 32 (.pointer (some ⟨b, o, none⟩)) 1).run Try.prog w = .ok (.pointer (some ⟨b, o + 1, none⟩)) w := by kernel_rfl
theorem T24 : Try.f24.ntmps = 18 := by kernel_rfl
theorem I32 : Sv.TI Try.prog 32 (.agg #[.int .u64 0, .int .u64 0]) 2 16 := by unfold Sv.TI; kernel_rfl
theorem B31 : Try.f31.body.isSome = true := by kernel_rfl
theorem N31 : (Try.f31.name == "runtime.NumGoroutine") = false := by kernel_rfl
theorem T27 : Try.f27.ntmps = 17 := by kernel_rfl
end Go.Proofs.Ythdpojggdodpfaa
