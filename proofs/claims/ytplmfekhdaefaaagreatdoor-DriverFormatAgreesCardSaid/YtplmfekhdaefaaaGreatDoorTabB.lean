/-
  Texts joined: Tab34, Tab35, Tab36, Tab37, Tab38, Tab39, Tab40, Tab41, Tab42.
-/
import Derived.Test.YtplmfekhdaefaaaGreatDoorProg
import Derived.Test.YtplmfekhdaefaaaGreatDoorTabA
set_option linter.unusedSimpArgs false
set_option linter.unusedVariables false
namespace Go.Proofs.YtplmfekhdaefaaaGreatDoor
open Go
theorem B103 : Tryz.f103.body.isSome = true := by kernel_rfl
theorem N103 : (Tryz.f103.name == "runtime.NumGoroutine") = false := by kernel_rfl
theorem B104 : Tryz.f104.body.isSome = true := by kernel_rfl
theorem N104 : (Tryz.f104.name == "runtime.NumGoroutine") = false := by kernel_rfl
theorem I5 : Sv.TI Tryz.prog 5 (.int .u8 0) 1 1 := by unfold Sv.TI; kernel_rfl
theorem T90 : Tryz.f90.ntmps = 32 := by kernel_rfl
theorem B102 : Tryz.f102.body.isSome = true := by kernel_rfl
theorem N102 : (Tryz.f102.name == "runtime.NumGoroutine") = false := by kernel_rfl
theorem I174 : Sv.TI Tryz.prog 174 (.agg #[.int .u8 0, .int .u8 0, .int .u8 0, .int .u8 0, .int .u8 0, .int .u8 0, .int .u8 0, .int .u8 0, .int .u8 0, .int .u8 0, .int .u8 0, .int .u8 0, .int .u8 0, .int .u8 0, .int .u8 0, .int .u8 0, .int .u8 0, .int .u8 0, .int .u8 0, .int .u8 0, .int .u8 0, .int .u8 0, .int .u8 0, .int .u8 0]) 24 24 := by unfold Sv.TI; kernel_rfl
theorem T83 : Tryz.f83.ntmps = 8 := by kernel_rfl
theorem B90 : Tryz.f90.body.isSome = true := by kernel_rfl
theorem N90 : (Tryz.f90.name == "runtime.NumGoroutine") = false := by kernel_rfl
theorem T63 : Tryz.f63.ntmps = 5 := by kernel_rfl
theorem B83 : Tryz.f83.body.isSome = true := by kernel_rfl
theorem N83 : (Tryz.f83.name == "runtime.NumGoroutine") = false := by kernel_rfl
theorem T38 : Tryz.f38.ntmps = 19 := by kernel_rfl
theorem B62 : Tryz.f62.body.isSome = true := by kernel_rfl
theorem N62 : (Tryz.f62.name == "runtime.NumGoroutine") = false := by kernel_rfl
theorem F95_1 (b o : Nat) (w : World) : (Instr.fieldAt 95 (.pointer (some ⟨b, o, none⟩)) 1).run Tryz.prog w = .ok (.pointer (some ⟨b, o + 1, none⟩)) w := by kernel_rfl
theorem I33 : Sv.TI Tryz.prog 33 (.slice none 0 0) 1 24 := by unfold Sv.TI; kernel_rfl
end Go.Proofs.YtplmfekhdaefaaaGreatDoor
set_option linter.unusedSimpArgs false
set_option linter.unusedVariables false
namespace Go.Proofs.YtplmfekhdaefaaaGreatDoor
open Go
theorem T39 : Tryz.f39.ntmps = 20 := by kernel_rfl
theorem B63 : Tryz.f63.body.isSome = true := by kernel_rfl
theorem N63 : (Tryz.f63.name == "runtime.NumGoroutine") = false := by kernel_rfl
theorem T40 : Tryz.f40.ntmps = 44 := by kernel_rfl
theorem B64 : Tryz.f64.body.isSome = true := by kernel_rfl
theorem N64 : (Tryz.f64.name == "runtime.NumGoroutine") = false := by kernel_rfl
end Go.Proofs.YtplmfekhdaefaaaGreatDoor
set_option linter.unusedSimpArgs false
set_option linter.unusedVariables false
namespace Go.Proofs.YtplmfekhdaefaaaGreatDoor
open Go
theorem B41 : Tryz.f41.body.isSome = true := by kernel_rfl
theorem N41 : (Tryz.f41.name == "runtime.NumGoroutine") = false := by kernel_rfl
theorem T16 : Tryz.f16.ntmps = 77 := by kernel_rfl
theorem I95 : Sv.TI Tryz.prog 95 (.agg #[.pointer none, .slice none 0 0]) 2 32 := by unfold Sv.TI; kernel_rfl
theorem B38 : Tryz.f38.body.isSome = true := by kernel_rfl
theorem N38 : (Tryz.f38.name == "runtime.NumGoroutine") = false := by kernel_rfl
theorem B39 : Tryz.f39.body.isSome = true := by kernel_rfl
theorem N39 : (Tryz.f39.name == "runtime.NumGoroutine") = false := by kernel_rfl
theorem B40 : Tryz.f40.body.isSome = true := by kernel_rfl
theorem N40 : (Tryz.f40.name == "runtime.NumGoroutine") = false := by kernel_rfl
end Go.Proofs.YtplmfekhdaefaaaGreatDoor
set_option linter.unusedSimpArgs false
set_option linter.unusedVariables false
namespace Go.Proofs.YtplmfekhdaefaaaGreatDoor
open Go
theorem T47 : Tryz.f47.ntmps = 22 := by kernel_rfl
theorem T24 : Tryz.f24.ntmps = 86 := by kernel_rfl
theorem B47 : Tryz.f47.body.isSome = true := by kernel_rfl
theorem N47 : (Tryz.f47.name == "runtime.NumGoroutine") = false := by kernel_rfl
theorem T9 : Tryz.f9.ntmps = 67 := by kernel_rfl
theorem B24 : Tryz.f24.body.isSome = true := by kernel_rfl
theorem N24 : (Tryz.f24.name == "runtime.NumGoroutine") = false := by kernel_rfl
end Go.Proofs.YtplmfekhdaefaaaGreatDoor
set_option linter.unusedSimpArgs false
set_option linter.unusedVariables false
namespace Go.Proofs.YtplmfekhdaefaaaGreatDoor
open Go

end Go.Proofs.YtplmfekhdaefaaaGreatDoor
set_option linter.unusedSimpArgs false
set_option linter.unusedVariables false
namespace Go.Proofs.YtplmfekhdaefaaaGreatDoor
open Go
theorem T4 : Tryz.f4.ntmps = 56 := by kernel_rfl
theorem B16 : Tryz.f16.body.isSome = true := by kernel_rfl
theorem N16 : (Tryz.f16.name == "runtime.NumGoroutine") = false := by kernel_rfl
theorem B9 : Tryz.f9.body.isSome = true := by kernel_rfl
theorem N9 : (Tryz.f9.name == "runtime.NumGoroutine") = false := by kernel_rfl
end Go.Proofs.YtplmfekhdaefaaaGreatDoor
set_option linter.unusedSimpArgs false
set_option linter.unusedVariables false
namespace Go.Proofs.YtplmfekhdaefaaaGreatDoor
open Go
theorem T5 : Tryz.f5.ntmps = 53 := by kernel_rfl
end Go.Proofs.YtplmfekhdaefaaaGreatDoor
set_option linter.unusedSimpArgs false
set_option linter.unusedVariables false
namespace Go.Proofs.YtplmfekhdaefaaaGreatDoor
open Go
theorem T3 : Tryz.f3.ntmps = 96 := by kernel_rfl
end Go.Proofs.YtplmfekhdaefaaaGreatDoor
set_option linter.unusedSimpArgs false
set_option linter.unusedVariables false
namespace Go.Proofs.YtplmfekhdaefaaaGreatDoor
open Go
theorem T6 : Tryz.f6.ntmps = 92 := by kernel_rfl
theorem Ba41_3 (x0 : ByteArray) (x1 : ByteArray) (x2 : ByteArray) (w : World) : (Instr.build 41 [(0, .string x0), (1, .string x1), (2, .string x2)].toArray).run Tryz.prog w = .ok (.agg [.string x0, .string x1, .string x2].toArray) w := by kernel_rfl
end Go.Proofs.YtplmfekhdaefaaaGreatDoor
