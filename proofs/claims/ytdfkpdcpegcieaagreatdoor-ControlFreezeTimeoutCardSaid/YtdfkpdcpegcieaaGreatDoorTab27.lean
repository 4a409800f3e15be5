/-
  Facts off the tables of the program.
-/
import Derived.Test.YtdfkpdcpegcieaaGreatDoorProg
import Derived.Test.YtdfkpdcpegcieaaGreatDoorTab26
set_option linter.unusedSimpArgs false
set_option linter.unusedVariables false
namespace Go.Proofs.YtdfkpdcpegcieaaGreatDoor
open Go
theorem T8 : Tryz.f8.ntmps = 81 := by kernel_rfl
theorem Bd87_  (w : World) : (Instr.build 87 [].toArray).run Tryz.prog w = .ok (.agg [.slice none 0 0, .slice none 0 0, .slice none 0 0].toArray) w := by kernel_rfl
theorem B26 : Tryz.f26.body.isSome = true := by kernel_rfl
theorem N26 : (Tryz.f26.name == "runtime.NumGoroutine") = false := by kernel_rfl
theorem F80_3 (b o : Nat) (w : World) : (Instr.fieldAt 80 (.pointer (some ⟨b, o, none⟩)) 3).run Tryz.prog w = .ok (.pointer (some ⟨b, o + 7, none⟩)) w := by kernel_rfl
theorem B27 : Tryz.f27.body.isSome = true := by kernel_rfl
theorem N27 : (Tryz.f27.name == "runtime.NumGoroutine") = false := by kernel_rfl
theorem B29 : Tryz.f29.body.isSome = true := by kernel_rfl
theorem N29 : (Tryz.f29.name == "runtime.NumGoroutine") = false := by kernel_rfl
theorem B31 : Tryz.f31.body.isSome = true := by kernel_rfl
theorem N31 : (Tryz.f31.name == "runtime.NumGoroutine") = false := by kernel_rfl
end Go.Proofs.YtdfkpdcpegcieaaGreatDoor
