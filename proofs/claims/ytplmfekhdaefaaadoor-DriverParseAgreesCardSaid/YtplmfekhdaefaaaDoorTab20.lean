/-
  Facts off the tables of the program.
-/
import Derived.Test.YtplmfekhdaefaaaDoorProg
import Derived.Test.YtplmfekhdaefaaaDoorTab19
set_option linter.unusedSimpArgs false
set_option linter.unusedVariables false
namespace Go.Proofs.YtplmfekhdaefaaaDoor
open Go
theorem T49 : Tryd.f49.ntmps = 18 := by kernel_rfl
theorem F50_2 (b o : Nat) (w : World) : (Instr.fieldAt 50 (.pointer (some ⟨b, o, none⟩)) 2).run Tryd.prog w = .ok (.pointer (some ⟨b, o + 4, none⟩)) w := by kernel_rfl
theorem F50_1 (b o : Nat) (w : World) : (Instr.fieldAt 50 (.pointer (some ⟨b, o, none⟩)) 1).run Tryd.prog w = .ok (.pointer (some ⟨b, o + 3, none⟩)) w := by kernel_rfl
theorem T50 : Tryd.f50.ntmps = 61 := by kernel_rfl
theorem F50_0 (b o : Nat) (w : World) : (Instr.fieldAt 50 (.pointer (some ⟨b, o, none⟩)) 0).run Tryd.prog w = .ok (.pointer (some ⟨b, o, none⟩)) w := by kernel_rfl
theorem F50_3 (b o : Nat) (w : World) : (Instr.fieldAt 50 (.pointer (some ⟨b, o, none⟩)) 3).run Tryd.prog w = .ok (.pointer (some ⟨b, o + 5, none⟩)) w := by kernel_rfl
theorem B49 : Tryd.f49.body.isSome = true := by kernel_rfl
theorem N49 : (Tryd.f49.name == "runtime.NumGoroutine") = false := by kernel_rfl
theorem T24 : Tryd.f24.ntmps = 18 := by kernel_rfl
theorem B50 : Tryd.f50.body.isSome = true := by kernel_rfl
theorem N50 : (Tryd.f50.name == "runtime.NumGoroutine") = false := by kernel_rfl
theorem T21 : Tryd.f21.ntmps = 43 := by kernel_rfl
theorem T19 : Tryd.f19.ntmps = 13 := by kernel_rfl
theorem B31 : Tryd.f31.body.isSome = true := by kernel_rfl
theorem N31 : (Tryd.f31.name == "runtime.NumGoroutine") = false := by kernel_rfl
theorem Bd50_0_2 (x00 x01 x02 : Value) (x2 : Int) (w : World) : (Instr.build 50 [(0, .agg #[x00, x01, x02]), (2, .int .i64 x2)].toArray).run Tryd.prog w = .ok (.agg [x00, x01, x02, .int .i64 0, .int .i64 x2, .string (Sv.bs [])].toArray) w := by kernel_rfl
end Go.Proofs.YtplmfekhdaefaaaDoor
