/-
  Facts off the tables of the program.
-/
import Derived.Test.YthdpojggdodpfaaProg
import Derived.Test.YthdpojggdodpfaaTab8
set_option linter.unusedSimpArgs false
set_option linter.unusedVariables false
namespace Go.Proofs.Ythdpojggdodpfaa
open Go
theorem T17 : Try.f17.ntmps = 19 := by kernel_rfl
theorem T9 : Try.f9.ntmps = 71 := by kernel_rfl
theorem B8 : Try.f8.body.isSome = true := by kernel_rfl
theorem N8 : (Try.f8.name == "runtime.NumGoroutine") = false := by kernel_rfl
theorem B11 : Try.f11.body.isSome = true := by kernel_rfl
theorem N11 : (Try.f11.name == "runtime.NumGoroutine") = false := by kernel_rfl
theorem Bd37_0_1_2 (x0 : Int) (x1 : Int) (x2 : Int) (w : World) : (Instr.build 37 [(0, .int .i64 x0), (1, .int .u64 x1), (2, .int .i64 x2)].toArray).run Try.prog w = .ok (.agg [.int .i64 x0, .int .u64 x1, .int .i64 x2, .bool false, .int .u64 0].toArray) w := by kernel_rfl
theorem B13 : Try.f13.body.isSome = true := by kernel_rfl
theorem N13 : (Try.f13.name == "runtime.NumGoroutine") = false := by kernel_rfl
theorem B12 : Try.f12.body.isSome = true := by kernel_rfl
theorem N12 : (Try.f12.name == "runtime.NumGoroutine") = false := by kernel_rfl
theorem B21 : Try.f21.body.isSome = true := by kernel_rfl
theorem N21 : (Try.f21.name == "runtime.NumGoroutine") = false := by kernel_rfl
end Go.Proofs.Ythdpojggdodpfaa
