/-
  Facts off the tables of the program.
-/
import Derived.Test.YtaafpnoffdcbnaaProg
import Derived.Test.YtaafpnoffdcbnaaTab5
set_option linter.unusedSimpArgs false
set_option linter.unusedVariables false
namespace Go.Proofs.Ytaafpnoffdcbnaa
open Go
theorem IX29_0 (x y z : Value) (w : World) : (Instr.index 29 (.agg #[x, y, z]) (.int .i64 0)).run Try.prog w = .ok x w := by kernel_rfl
theorem IX29_1 (x y z : Value) (w : World) : (Instr.index 29 (.agg #[x, y, z]) (.int .i64 1)).run Try.prog w = .ok y w := by kernel_rfl
theorem IX29_2 (x y z : Value) (w : World) : (Instr.index 29 (.agg #[x, y, z]) (.int .i64 2)).run Try.prog w = .ok z w := by kernel_rfl
theorem BD29 (a b c : Option Addr) (n m k p q r : Nat) (w : World) : (Instr.build 29 [(0, .slice a n p), (1, .slice b m q), (2, .slice c k r)].toArray).run Try.prog w = .ok (.agg [.slice a n p, .slice b m q, .slice c k r].toArray) w := by kernel_rfl
theorem T3 : Try.f3.ntmps = 97 := by kernel_rfl
theorem B12 : Try.f12.body.isSome = true := by kernel_rfl
theorem N12 : (Try.f12.name == "runtime.NumGoroutine") = false := by kernel_rfl
theorem B13 : Try.f13.body.isSome = true := by kernel_rfl
theorem N13 : (Try.f13.name == "runtime.NumGoroutine") = false := by kernel_rfl
theorem B16 : Try.f16.body.isSome = true := by kernel_rfl
theorem N16 : (Try.f16.name == "runtime.NumGoroutine") = false := by kernel_rfl
end Go.Proofs.Ytaafpnoffdcbnaa
