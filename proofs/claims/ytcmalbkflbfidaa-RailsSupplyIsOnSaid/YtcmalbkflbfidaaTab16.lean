/-
  Facts off the tables of the program.
-/
import Derived.Test.YtcmalbkflbfidaaProg
import Derived.Test.YtcmalbkflbfidaaTab15
set_option linter.unusedSimpArgs false
set_option linter.unusedVariables false
namespace Go.Proofs.Ytcmalbkflbfidaa
open Go
theorem T4 : Try.f4.ntmps = 104 := by kernel_rfl
theorem B17 : Try.f17.body.isSome = true := by kernel_rfl
theorem N17 : (Try.f17.name == "runtime.NumGoroutine") = false := by kernel_rfl
theorem F45_2 (b o : Nat) (w : World) : (Instr.fieldAt 45 (.pointer (some ⟨b, o, none⟩)) 2).run Try.prog w = .ok (.pointer (some ⟨b, o + 2, none⟩)) w := by kernel_rfl
end Go.Proofs.Ytcmalbkflbfidaa
