/-
  Facts off the tables of the program.
-/
import Derived.Test.YtaafpnoffdcbnaaProg
import Derived.Test.YtaafpnoffdcbnaaTab12
set_option linter.unusedSimpArgs false
set_option linter.unusedVariables false
namespace Go.Proofs.Ytaafpnoffdcbnaa
open Go
theorem T10 : Try.f10.ntmps = 180 := by kernel_rfl
theorem B28 : Try.f28.body.isSome = true := by kernel_rfl
theorem N28 : (Try.f28.name == "runtime.NumGoroutine") = false := by kernel_rfl
theorem B29 : Try.f29.body.isSome = true := by kernel_rfl
theorem N29 : (Try.f29.name == "runtime.NumGoroutine") = false := by kernel_rfl
theorem B30 : Try.f30.body.isSome = true := by kernel_rfl
theorem N30 : (Try.f30.name == "runtime.NumGoroutine") = false := by kernel_rfl
theorem B32 : Try.f32.body.isSome = true := by kernel_rfl
theorem N32 : (Try.f32.name == "runtime.NumGoroutine") = false := by kernel_rfl
theorem B31 : Try.f31.body.isSome = true := by kernel_rfl
theorem N31 : (Try.f31.name == "runtime.NumGoroutine") = false := by kernel_rfl
end Go.Proofs.Ytaafpnoffdcbnaa
