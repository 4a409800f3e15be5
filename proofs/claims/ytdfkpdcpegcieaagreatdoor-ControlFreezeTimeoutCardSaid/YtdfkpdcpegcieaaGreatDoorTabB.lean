/-
  Texts joined: Tab14, Tab15, Tab16, Tab17.
-/
import Derived.Test.YtdfkpdcpegcieaaGreatDoorProg
import Derived.Test.YtdfkpdcpegcieaaGreatDoorTabA
set_option linter.unusedSimpArgs false
set_option linter.unusedVariables false
namespace Go.Proofs.YtdfkpdcpegcieaaGreatDoor
open Go
theorem T6 : Tryz.f6.ntmps = 121 := by kernel_rfl
theorem B9 : Tryz.f9.body.isSome = true := by kernel_rfl
theorem N9 : (Tryz.f9.name == "runtime.NumGoroutine") = false := by kernel_rfl
theorem B10 : Tryz.f10.body.isSome = true := by kernel_rfl
theorem N10 : (Tryz.f10.name == "runtime.NumGoroutine") = false := by kernel_rfl
theorem B13 : Tryz.f13.body.isSome = true := by kernel_rfl
theorem N13 : (Tryz.f13.name == "runtime.NumGoroutine") = false := by kernel_rfl
theorem F35_1 (b o : Nat) (w : World) : (Instr.fieldAt 35 (.pointer (some ⟨b, o, none⟩)) 1).run Tryz.prog w = .ok (.pointer (some ⟨b, o + 1, none⟩)) w := by kernel_rfl
theorem F35_2 (b o : Nat) (w : World) : (Instr.fieldAt 35 (.pointer (some ⟨b, o, none⟩)) 2).run Tryz.prog w = .ok (.pointer (some ⟨b, o + 2, none⟩)) w := by kernel_rfl
theorem F35_3 (b o : Nat) (w : World) : (Instr.fieldAt 35 (.pointer (some ⟨b, o, none⟩)) 3).run Tryz.prog w = .ok (.pointer (some ⟨b, o + 3, none⟩)) w := by kernel_rfl
theorem F35_4 (b o : Nat) (w : World) : (Instr.fieldAt 35 (.pointer (some ⟨b, o, none⟩)) 4).run Tryz.prog w = .ok (.pointer (some ⟨b, o + 4, none⟩)) w := by kernel_rfl
theorem I50 : Sv.TI Tryz.prog 50 (.agg #[.int .i64 0, .int .i64 0, .int .i64 0, .bool false, .bool false]) 5 32 := by unfold Sv.TI; kernel_rfl
theorem B15 : Tryz.f15.body.isSome = true := by kernel_rfl
theorem N15 : (Tryz.f15.name == "runtime.NumGoroutine") = false := by kernel_rfl
theorem F50_3 (b o : Nat) (w : World) : (Instr.fieldAt 50 (.pointer (some ⟨b, o, none⟩)) 3).run Tryz.prog w = .ok (.pointer (some ⟨b, o + 3, none⟩)) w := by kernel_rfl
theorem B22 : Tryz.f22.body.isSome = true := by kernel_rfl
theorem N22 : (Tryz.f22.name == "runtime.NumGoroutine") = false := by kernel_rfl
theorem B18 : Tryz.f18.body.isSome = true := by kernel_rfl
theorem N18 : (Tryz.f18.name == "runtime.NumGoroutine") = false := by kernel_rfl
theorem B21 : Tryz.f21.body.isSome = true := by kernel_rfl
theorem N21 : (Tryz.f21.name == "runtime.NumGoroutine") = false := by kernel_rfl
end Go.Proofs.YtdfkpdcpegcieaaGreatDoor
set_option linter.unusedSimpArgs false
set_option linter.unusedVariables false
namespace Go.Proofs.YtdfkpdcpegcieaaGreatDoor
open Go
theorem T5 : Tryz.f5.ntmps = 120 := by kernel_rfl
end Go.Proofs.YtdfkpdcpegcieaaGreatDoor
set_option linter.unusedSimpArgs false
set_option linter.unusedVariables false
namespace Go.Proofs.YtdfkpdcpegcieaaGreatDoor
open Go
theorem T7 : Tryz.f7.ntmps = 114 := by kernel_rfl
theorem B25 : Tryz.f25.body.isSome = true := by kernel_rfl
theorem N25 : (Tryz.f25.name == "runtime.NumGoroutine") = false := by kernel_rfl
theorem B24 : Tryz.f24.body.isSome = true := by kernel_rfl
theorem N24 : (Tryz.f24.name == "runtime.NumGoroutine") = false := by kernel_rfl
end Go.Proofs.YtdfkpdcpegcieaaGreatDoor
set_option linter.unusedSimpArgs false
set_option linter.unusedVariables false
namespace Go.Proofs.YtdfkpdcpegcieaaGreatDoor
open Go
theorem T4 : Tryz.f4.ntmps = 199 := by kernel_rfl
end Go.Proofs.YtdfkpdcpegcieaaGreatDoor
