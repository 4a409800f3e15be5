/-
  Facts off the tables of the program.
-/
import Derived.Test.YtcmalbkflbfidaaProg
import Derived.Test.YtcmalbkflbfidaaTab11
set_option linter.unusedSimpArgs false
set_option linter.unusedVariables false
namespace Go.Proofs.Ytcmalbkflbfidaa
open Go
theorem T9 : Try.f9.ntmps = 147 := by kernel_rfl
theorem B18 : Try.f18.body.isSome = true := by kernel_rfl
theorem N18 : (Try.f18.name == "runtime.NumGoroutine") = false := by kernel_rfl
theorem F45_3 (b o : Nat) (w : World) : (Instr.fieldAt 45 (.pointer (some ⟨b, o, none⟩)) 3).run Try.prog w = .ok (.pointer (some ⟨b, o + 3, none⟩)) w := by kernel_rfl
end Go.Proofs.Ytcmalbkflbfidaa
