/-
  Facts off the tables of the program.
-/
import Derived.Test.YthdpojggdodpfaaProg
import Derived.Test.YthdpojggdodpfaaTab9
set_option linter.unusedSimpArgs false
set_option linter.unusedVariables false
namespace Go.Proofs.Ythdpojggdodpfaa
open Go
theorem T5 : Try.f5.ntmps = 94 := by kernel_rfl
theorem B9 : Try.f9.body.isSome = true := by kernel_rfl
theorem N9 : (Try.f9.name == "runtime.NumGoroutine") = false := by kernel_rfl
theorem B10 : Try.f10.body.isSome = true := by kernel_rfl
theorem N10 : (Try.f10.name == "runtime.NumGoroutine") = false := by kernel_rfl
theorem B16 : Try.f16.body.isSome = true := by kernel_rfl
theorem N16 : (Try.f16.name == "runtime.NumGoroutine") = false := by kernel_rfl
theorem Bd37_0_1_2_3_4 (x0 : Int) (x1 : Int) (x2 : Int) (x3 : Bool) (x4 : Int) (w : World) : (Instr.build 37 [(0, .int .i64 x0), (1, .int .u64 x1), (2, .int .i64 x2), (3, .bool x3), (4, .int .u64 x4)].toArray).run Try.prog w = .ok (.agg [.int .i64 x0, .int .u64 x1, .int .i64 x2, .bool x3, .int .u64 x4].toArray) w := by kernel_rfl
theorem B17 : Try.f17.body.isSome = true := by kernel_rfl
theorem N17 : (Try.f17.name == "runtime.NumGoroutine") = false := by kernel_rfl
end Go.Proofs.Ythdpojggdodpfaa
