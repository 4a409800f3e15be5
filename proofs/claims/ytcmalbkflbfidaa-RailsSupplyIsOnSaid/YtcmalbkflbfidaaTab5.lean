/-
  Facts off the tables of the program.
-/
import Derived.Test.YtcmalbkflbfidaaProg
import Derived.Test.YtcmalbkflbfidaaTab4
set_option linter.unusedSimpArgs false
set_option linter.unusedVariables false
namespace Go.Proofs.Ytcmalbkflbfidaa
open Go
theorem T13 : Try.f13.ntmps = 66 := by kernel_rfl
theorem Bd70_0_1 (x0 : Int) (x1 : Int) (w : World) : (Instr.build 70 [(0, .int .i64 x0), (1, .int .i64 x1)].toArray).run Try.prog w = .ok (.agg [.int .i64 x0, .int .i64 x1].toArray) w := by kernel_rfl
theorem Bs68_1_0 (x00 x01 : Value) (w : World) : (Instr.buildSlice 68 1 [(0, .agg #[x00, x01])].toArray).run Try.prog w = .ok (.slice (some ⟨w.heap.size, 0, none⟩) 1 1) (w.alloc (.cells [x00, x01].toArray 70)) := by kernel_rfl
theorem B33 : Try.f33.body.isSome = true := by kernel_rfl
theorem N33 : (Try.f33.name == "runtime.NumGoroutine") = false := by kernel_rfl
theorem B34 : Try.f34.body.isSome = true := by kernel_rfl
theorem N34 : (Try.f34.name == "runtime.NumGoroutine") = false := by kernel_rfl
theorem Bd73_0_1_2 (x0 : Option Addr) (x0n x0c : Nat) (x1 : Option Addr) (x1n x1c : Nat) (x2 : Option Addr) (x2n x2c : Nat) (w : World) : (Instr.build 73 [(0, .slice x0 x0n x0c), (1, .slice x1 x1n x1c), (2, .slice x2 x2n x2c)].toArray).run Try.prog w = .ok (.agg [.slice x0 x0n x0c, .slice x1 x1n x1c, .slice x2 x2n x2c, .int .u64 0].toArray) w := by kernel_rfl
theorem T14 : Try.f14.ntmps = 84 := by kernel_rfl
theorem Bd59_0_1_2 (x0 : Option Addr) (x0n x0c : Nat) (x1 : Option Addr) (x1n x1c : Nat) (x2 : Option Addr) (x2n x2c : Nat) (w : World) : (Instr.build 59 [(0, .slice x0 x0n x0c), (1, .slice x1 x1n x1c), (2, .slice x2 x2n x2c)].toArray).run Try.prog w = .ok (.agg [.slice x0 x0n x0c, .slice x1 x1n x1c, .slice x2 x2n x2c, .int .u64 0].toArray) w := by kernel_rfl
theorem T29 : Try.f29.ntmps = 24 := by kernel_rfl
theorem B38 : Try.f38.body.isSome = true := by kernel_rfl
theorem N38 : (Try.f38.name == "runtime.NumGoroutine") = false := by kernel_rfl
theorem B39 : Try.f39.body.isSome = true := by kernel_rfl
theorem N39 : (Try.f39.name == "runtime.NumGoroutine") = false := by kernel_rfl
theorem Bd73_0_1_2_3 (x0 : Option Addr) (x0n x0c : Nat) (x1 : Option Addr) (x1n x1c : Nat) (x2 : Option Addr) (x2n x2c : Nat) (x3 : Int) (w : World) : (Instr.build 73 [(0, .slice x0 x0n x0c), (1, .slice x1 x1n x1c), (2, .slice x2 x2n x2c), (3, .int .u64 x3)].toArray).run Try.prog w = .ok (.agg [.slice x0 x0n x0c, .slice x1 x1n x1c, .slice x2 x2n x2c, .int .u64 x3].toArray) w := by kernel_rfl
theorem T30 : Try.f30.ntmps = 27 := by kernel_rfl
theorem Bd59_0_1_2_3 (x0 : Option Addr) (x0n x0c : Nat) (x1 : Option Addr) (x1n x1c : Nat) (x2 : Option Addr) (x2n x2c : Nat) (x3 : Int) (w : World) : (Instr.build 59 [(0, .slice x0 x0n x0c), (1, .slice x1 x1n x1c), (2, .slice x2 x2n x2c), (3, .int .u64 x3)].toArray).run Try.prog w = .ok (.agg [.slice x0 x0n x0c, .slice x1 x1n x1c, .slice x2 x2n x2c, .int .u64 x3].toArray) w := by kernel_rfl
end Go.Proofs.Ytcmalbkflbfidaa
