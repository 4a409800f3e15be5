/-
  Facts off the tables of the program.
-/
import Derived.Test.YtplmfekhdaefaaaDoorProg
import Derived.Test.YtplmfekhdaefaaaDoorTab31
set_option linter.unusedSimpArgs false
set_option linter.unusedVariables false
namespace Go.Proofs.YtplmfekhdaefaaaDoor
open Go
theorem T44 : Tryd.f44.ntmps = 38 := by kernel_rfl
theorem EG59eql (x y : Operand) (xs ys : Array Value) (w : World) : (eqGuard .eql 59 x y (.agg xs) (.agg ys)).run Tryd.prog w = .ok () w := by kernel_rfl
theorem EQ59eql (x0 : Bool) (x1 : Int) (x2 : Int) (x3 : Int) (y0 : Bool) (y1 : Int) (y2 : Int) (y3 : Int) (w : World) : (binOp .eql 59 (.agg #[.bool x0, .int .u64 x1, .int .u64 x2, .int .u64 x3]) (.agg #[.bool y0, .int .u64 y1, .int .u64 y2, .int .u64 y3])).run Tryd.prog w = .ok (.bool (decide (x0 = y0 ∧ x1 = y1 ∧ x2 = y2 ∧ x3 = y3))) w :=
  Sv.run_eql_of (p := x0 = y0 ∧ x1 = y1 ∧ x2 = y2 ∧ x3 = y3) (fun _ _ => by simp) (fun _ => by simp) (fun _ _ => by simp) (fun _ _ _ => by simp) (fun w => SEQ59 9998 x0 y0 x1 y1 x2 y2 x3 y3 w) w
theorem T43 : Tryd.f43.ntmps = 30 := by kernel_rfl
theorem B44 : Tryd.f44.body.isSome = true := by kernel_rfl
theorem N44 : (Tryd.f44.name == "runtime.NumGoroutine") = false := by kernel_rfl
theorem T13 : Tryd.f13.ntmps = 24 := by kernel_rfl
theorem B42 : Tryd.f42.body.isSome = true := by kernel_rfl
theorem N42 : (Tryd.f42.name == "runtime.NumGoroutine") = false := by kernel_rfl
theorem B43 : Tryd.f43.body.isSome = true := by kernel_rfl
theorem N43 : (Tryd.f43.name == "runtime.NumGoroutine") = false := by kernel_rfl
theorem T3 : Tryd.f3.ntmps = 32 := by kernel_rfl
theorem B12 : Tryd.f12.body.isSome = true := by kernel_rfl
theorem N12 : (Tryd.f12.name == "runtime.NumGoroutine") = false := by kernel_rfl
theorem B13 : Tryd.f13.body.isSome = true := by kernel_rfl
theorem N13 : (Tryd.f13.name == "runtime.NumGoroutine") = false := by kernel_rfl
end Go.Proofs.YtplmfekhdaefaaaDoor
