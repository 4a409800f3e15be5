/-
  Facts off the tables of the program.
-/
import Derived.Test.YthdpojggdodpfaaProg
import Derived.Test.YthdpojggdodpfaaTab1
set_option linter.unusedSimpArgs false
set_option linter.unusedVariables false
namespace Go.Proofs.Ythdpojggdodpfaa
open Go
theorem T48 : Try.f48.ntmps = 15 := by kernel_rfl
theorem I78 : Sv.TI Try.prog 78 (.pointer none) 1 8 := by unfold Sv.TI; kernel_rfl
theorem F77_0 (b o : Nat) (w : World) : (Instr.fieldAt 77 (.pointer (some ⟨b, o, none⟩)) 0).run Try.prog w = .ok (.pointer (some ⟨b, o, none⟩)) w := by kernel_rfl
theorem T47 : Try.f47.ntmps = 26 := by kernel_rfl
theorem B48 : Try.f48.body.isSome = true := by kernel_rfl
theorem N48 : (Try.f48.name == "runtime.NumGoroutine") = false := by kernel_rfl
theorem T26 : Try.f26.ntmps = 18 := by kernel_rfl
theorem F71_0 (b o : Nat) (w : World) : (Instr.fieldAt 71 (.pointer (some ⟨b, o, none⟩)) 0).run Try.prog w = .ok (.pointer (some ⟨b, o, none⟩)) w := by kernel_rfl
theorem I67 : Sv.TI Try.prog 67 (.slice none 0 0) 1 24 := by unfold Sv.TI; kernel_rfl
theorem B47 : Try.f47.body.isSome = true := by kernel_rfl
theorem N47 : (Try.f47.name == "runtime.NumGoroutine") = false := by kernel_rfl
theorem T30 : Try.f30.ntmps = 50 := by kernel_rfl
theorem B23 : Try.f23.body.isSome = true := by kernel_rfl
theorem N23 : (Try.f23.name == "runtime.NumGoroutine") = false := by kernel_rfl
theorem B26 : Try.f26.body.isSome = true := by kernel_rfl
theorem N26 : (Try.f26.name == "runtime.NumGoroutine") = false := by kernel_rfl
end Go.Proofs.Ythdpojggdodpfaa
