/-
  Facts off the tables of the program.
-/
import Derived.Test.YtcmalbkflbfidaaProg
import Derived.Test.YtcmalbkflbfidaaTab1
set_option linter.unusedSimpArgs false
set_option linter.unusedVariables false
namespace Go.Proofs.Ytcmalbkflbfidaa
open Go
theorem T51 : Try.f51.ntmps = 10 := by kernel_rfl
theorem T45 : Try.f45.ntmps = 30 := by kernel_rfl
theorem F59_0 (b o : Nat) (w : World) : (Instr.fieldAt 59 (.pointer (some ⟨b, o, none⟩)) 0).run Try.prog w = .ok (.pointer (some ⟨b, o, none⟩)) w := by kernel_rfl
theorem F59_3 (b o : Nat) (w : World) : (Instr.fieldAt 59 (.pointer (some ⟨b, o, none⟩)) 3).run Try.prog w = .ok (.pointer (some ⟨b, o + 3, none⟩)) w := by kernel_rfl
theorem T27 : Try.f27.ntmps = 23 := by kernel_rfl
theorem F59_1 (b o : Nat) (w : World) : (Instr.fieldAt 59 (.pointer (some ⟨b, o, none⟩)) 1).run Try.prog w = .ok (.pointer (some ⟨b, o + 1, none⟩)) w := by kernel_rfl
theorem T25 : Try.f25.ntmps = 17 := by kernel_rfl
theorem B27 : Try.f27.body.isSome = true := by kernel_rfl
theorem N27 : (Try.f27.name == "runtime.NumGoroutine") = false := by kernel_rfl
theorem F59_2 (b o : Nat) (w : World) : (Instr.fieldAt 59 (.pointer (some ⟨b, o, none⟩)) 2).run Try.prog w = .ok (.pointer (some ⟨b, o + 2, none⟩)) w := by kernel_rfl
theorem T28 : Try.f28.ntmps = 22 := by kernel_rfl
theorem T46 : Try.f46.ntmps = 46 := by kernel_rfl
theorem T48 : Try.f48.ntmps = 91 := by kernel_rfl
theorem B51 : Try.f51.body.isSome = true := by kernel_rfl
theorem N51 : (Try.f51.name == "runtime.NumGoroutine") = false := by kernel_rfl
theorem B48 : Try.f48.body.isSome = true := by kernel_rfl
theorem N48 : (Try.f48.name == "runtime.NumGoroutine") = false := by kernel_rfl
theorem T47 : Try.f47.ntmps = 112 := by kernel_rfl
theorem B47 : Try.f47.body.isSome = true := by kernel_rfl
theorem N47 : (Try.f47.name == "runtime.NumGoroutine") = false := by kernel_rfl
theorem T37 : Try.f37.ntmps = 20 := by kernel_rfl
theorem B45 : Try.f45.body.isSome = true := by kernel_rfl
theorem N45 : (Try.f45.name == "runtime.NumGoroutine") = false := by kernel_rfl
theorem T36 : Try.f36.ntmps = 24 := by kernel_rfl
theorem B46 : Try.f46.body.isSome = true := by kernel_rfl
theorem N46 : (Try.f46.name == "runtime.NumGoroutine") = false := by kernel_rfl
end Go.Proofs.Ytcmalbkflbfidaa
