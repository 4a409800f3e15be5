/-
  Facts off the tables of the program.
-/
import Derived.Test.YthdpojggdodpfaaProg
import Derived.Test.YthdpojggdodpfaaTab5
set_option linter.unusedSimpArgs false
set_option linter.unusedVariables false
namespace Go.Proofs.Ythdpojggdodpfaa
open Go
theorem T34 : Try.f34.ntmps = 42 := by kernel_rfl
theorem F77_2 (b o : Nat) (w : World) : (Instr.fieldAt 77 (.pointer (some ⟨b, o, none⟩)) 2).run Try.prog w = .ok (.pointer (some ⟨b, o + 3, none⟩)) w := by kernel_rfl
theorem I5 : Sv.TI Try.prog 5 (.int .u8 0) 1 1 := by unfold Sv.TI; kernel_rfl
theorem T33 : Try.f33.ntmps = 48 := by kernel_rfl
theorem I23 : Sv.TI Try.prog 23 (.slice none 0 0) 1 24 := by unfold Sv.TI; kernel_rfl
end Go.Proofs.Ythdpojggdodpfaa
