/-
  Facts off the tables of the program.
-/
import Derived.Test.YtcmalbkflbfidaaProg
import Derived.Test.YtcmalbkflbfidaaTab12
set_option linter.unusedSimpArgs false
set_option linter.unusedVariables false
namespace Go.Proofs.Ytcmalbkflbfidaa
open Go
theorem T11 : Try.f11.ntmps = 162 := by kernel_rfl
theorem B29 : Try.f29.body.isSome = true := by kernel_rfl
theorem N29 : (Try.f29.name == "runtime.NumGoroutine") = false := by kernel_rfl
theorem F45_1 (b o : Nat) (w : World) : (Instr.fieldAt 45 (.pointer (some ⟨b, o, none⟩)) 1).run Try.prog w = .ok (.pointer (some ⟨b, o + 1, none⟩)) w := by kernel_rfl
end Go.Proofs.Ytcmalbkflbfidaa
