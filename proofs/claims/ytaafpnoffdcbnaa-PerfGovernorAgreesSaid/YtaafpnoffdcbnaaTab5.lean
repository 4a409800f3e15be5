/-
  Facts off the tables of the program.
-/
import Derived.Test.YtaafpnoffdcbnaaProg
import Derived.Test.YtaafpnoffdcbnaaTab4
set_option linter.unusedSimpArgs false
set_option linter.unusedVariables false
namespace Go.Proofs.Ytaafpnoffdcbnaa
open Go
theorem I45 : Sv.TI Try.prog 45 (.agg #[.int .i64 0, .int .i64 0, .int .i64 0]) 3 24 := by unfold Sv.TI; kernel_rfl
theorem T24 : Try.f24.ntmps = 18 := by kernel_rfl
theorem F45_0 (b o : Nat) (w : World) : (Instr.fieldAt 45 (.pointer (some ⟨b, o, none⟩)) 0).run Try.prog w = .ok (.pointer (some ⟨b, o, none⟩)) w := by kernel_rfl
theorem B14 : Try.f14.body.isSome = true := by kernel_rfl
theorem N14 : (Try.f14.name == "runtime.NumGoroutine") = false := by kernel_rfl
theorem F45_1 (b o : Nat) (w : World) : (Instr.fieldAt 45 (.pointer (some ⟨b, o, none⟩)) 1).run Try.prog w = .ok (.pointer (some ⟨b, o + 1, none⟩)) w := by kernel_rfl
theorem F45_2 (b o : Nat) (w : World) : (Instr.fieldAt 45 (.pointer (some ⟨b, o, none⟩)) 2).run Try.prog w = .ok (.pointer (some ⟨b, o + 2, none⟩)) w := by kernel_rfl
theorem Bd45_0_1_2 (x0 : Int) (x1 : Int) (x2 : Int) (w : World) : (Instr.build 45 [(0, .int .i64 x0), (1, .int .i64 x1), (2, .int .i64 x2)].toArray).run Try.prog w = .ok (.agg [.int .i64 x0, .int .i64 x1, .int .i64 x2].toArray) w := by kernel_rfl
theorem T25 : Try.f25.ntmps = 50 := by kernel_rfl
theorem B37 : Try.f37.body.isSome = true := by kernel_rfl
theorem N37 : (Try.f37.name == "runtime.NumGoroutine") = false := by kernel_rfl
theorem Bd66_0_1_3 (x0 : Option Addr) (x0n x0c : Nat) (x10 x11 x12 : Value) (x3 : Int) (w : World) : (Instr.build 66 [(0, .slice x0 x0n x0c), (1, .agg #[x10, x11, x12]), (3, .int .i64 x3)].toArray).run Try.prog w = .ok (.agg [.slice x0 x0n x0c, x10, x11, x12, .int .i64 0, .int .i64 x3, .int .i64 0, .int .i64 0].toArray) w := by kernel_rfl
theorem T28 : Try.f28.ntmps = 51 := by kernel_rfl
theorem Bd69_0_1_3 (x0 : Option Addr) (x0n x0c : Nat) (x10 x11 x12 : Value) (x3 : Int) (w : World) : (Instr.build 69 [(0, .slice x0 x0n x0c), (1, .agg #[x10, x11, x12]), (3, .int .i64 x3)].toArray).run Try.prog w = .ok (.agg [.slice x0 x0n x0c, x10, x11, x12, .int .i64 0, .int .i64 x3, .int .i64 0, .int .i64 0].toArray) w := by kernel_rfl
theorem T27 : Try.f27.ntmps = 7 := by kernel_rfl
theorem F66_4 (b o : Nat) (w : World) : (Instr.fieldAt 66 (.pointer (some ⟨b, o, none⟩)) 4).run Try.prog w = .ok (.pointer (some ⟨b, o + 6, none⟩)) w := by kernel_rfl
theorem T32 : Try.f32.ntmps = 7 := by kernel_rfl
theorem F69_4 (b o : Nat) (w : World) : (Instr.fieldAt 69 (.pointer (some ⟨b, o, none⟩)) 4).run Try.prog w = .ok (.pointer (some ⟨b, o + 6, none⟩)) w := by kernel_rfl
theorem T29 : Try.f29.ntmps = 45 := by kernel_rfl
theorem F66_0 (b o : Nat) (w : World) : (Instr.fieldAt 66 (.pointer (some ⟨b, o, none⟩)) 0).run Try.prog w = .ok (.pointer (some ⟨b, o, none⟩)) w := by kernel_rfl
theorem F66_2 (b o : Nat) (w : World) : (Instr.fieldAt 66 (.pointer (some ⟨b, o, none⟩)) 2).run Try.prog w = .ok (.pointer (some ⟨b, o + 4, none⟩)) w := by kernel_rfl
theorem I3 : Sv.TI Try.prog 3 (.int .i64 0) 1 8 := by unfold Sv.TI; kernel_rfl
theorem F66_3 (b o : Nat) (w : World) : (Instr.fieldAt 66 (.pointer (some ⟨b, o, none⟩)) 3).run Try.prog w = .ok (.pointer (some ⟨b, o + 5, none⟩)) w := by kernel_rfl
theorem F66_5 (b o : Nat) (w : World) : (Instr.fieldAt 66 (.pointer (some ⟨b, o, none⟩)) 5).run Try.prog w = .ok (.pointer (some ⟨b, o + 7, none⟩)) w := by kernel_rfl
theorem T30 : Try.f30.ntmps = 45 := by kernel_rfl
theorem F69_0 (b o : Nat) (w : World) : (Instr.fieldAt 69 (.pointer (some ⟨b, o, none⟩)) 0).run Try.prog w = .ok (.pointer (some ⟨b, o, none⟩)) w := by kernel_rfl
theorem F69_2 (b o : Nat) (w : World) : (Instr.fieldAt 69 (.pointer (some ⟨b, o, none⟩)) 2).run Try.prog w = .ok (.pointer (some ⟨b, o + 4, none⟩)) w := by kernel_rfl
theorem F69_3 (b o : Nat) (w : World) : (Instr.fieldAt 69 (.pointer (some ⟨b, o, none⟩)) 3).run Try.prog w = .ok (.pointer (some ⟨b, o + 5, none⟩)) w := by kernel_rfl
theorem F69_5 (b o : Nat) (w : World) : (Instr.fieldAt 69 (.pointer (some ⟨b, o, none⟩)) 5).run Try.prog w = .ok (.pointer (some ⟨b, o + 7, none⟩)) w := by kernel_rfl
theorem T38 : Try.f38.ntmps = 55 := by kernel_rfl
theorem F66_1 (b o : Nat) (w : World) : (Instr.fieldAt 66 (.pointer (some ⟨b, o, none⟩)) 1).run Try.prog w = .ok (.pointer (some ⟨b, o + 1, none⟩)) w := by kernel_rfl
theorem T26 : Try.f26.ntmps = 71 := by kernel_rfl
theorem B38 : Try.f38.body.isSome = true := by kernel_rfl
theorem N38 : (Try.f38.name == "runtime.NumGoroutine") = false := by kernel_rfl
theorem T31 : Try.f31.ntmps = 124 := by kernel_rfl
theorem F69_1 (b o : Nat) (w : World) : (Instr.fieldAt 69 (.pointer (some ⟨b, o, none⟩)) 1).run Try.prog w = .ok (.pointer (some ⟨b, o + 1, none⟩)) w := by kernel_rfl
end Go.Proofs.Ytaafpnoffdcbnaa
