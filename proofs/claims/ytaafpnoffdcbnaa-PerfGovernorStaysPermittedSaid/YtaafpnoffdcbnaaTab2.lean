/-
  Facts off the tables of the program.
-/
import Derived.Test.YtaafpnoffdcbnaaProg
import Derived.Test.YtaafpnoffdcbnaaTab1
set_option linter.unusedSimpArgs false
set_option linter.unusedVariables false
namespace Go.Proofs.Ytaafpnoffdcbnaa
open Go
theorem T21 : Try.f21.ntmps = 26 := by kernel_rfl
theorem I40 : Sv.TI Try.prog 40 (.agg #[.bool false, .int .u64 0]) 2 16 := by unfold Sv.TI; kernel_rfl
theorem EG40neq (x y : Operand) (xs ys : Array Value) (w : World) : (eqGuard .neq 40 x y (.agg xs) (.agg ys)).run Try.prog w = .ok () w := by kernel_rfl
theorem SI40 : Try.prog.stoodInHeld 40 = false := by kernel_rfl
theorem SEQ40 (d : Nat) (x0 : Bool) (y0 : Bool) (x1 : Int) (y1 : Int) (w : World) : (Op.equalIn (d + 2) 40 (.agg #[.bool x0, .int .u64 x1]) (.agg #[.bool y0, .int .u64 y1])).run Try.prog w = .ok (decide (x0 = y0 ∧ x1 = y1)) w := by
  have p0 : ∀ w, (part 4 #[.bool x0, .int .u64 x1] 0).run Try.prog w = .ok (.bool x0) w := fun w => by kernel_rfl
  have q0 : ∀ w, (part 4 #[.bool y0, .int .u64 y1] 0).run Try.prog w = .ok (.bool y0) w := fun w => by kernel_rfl
  have p1 : ∀ w, (part 23 #[.bool x0, .int .u64 x1] 1).run Try.prog w = .ok (.int .u64 x1) w := fun w => by kernel_rfl
  have q1 : ∀ w, (part 23 #[.bool y0, .int .u64 y1] 1).run Try.prog w = .ok (.int .u64 y1) w := fun w => by kernel_rfl
  rw [Op.equalIn]
  simp only [Sem.run_bind, run_underlying Try.underlying40, Result.andThen_ok]
  simp [SI40, p0, q0, p1, q1, Sv.equalIn_bool d Try.underlying4, Sv.equalIn_int d Try.underlying23]
  (repeat' split) <;> simp_all
theorem EQ40neq (x0 : Bool) (x1 : Int) (y0 : Bool) (y1 : Int) (w : World) : (binOp .neq 40 (.agg #[.bool x0, .int .u64 x1]) (.agg #[.bool y0, .int .u64 y1])).run Try.prog w = .ok (.bool (decide (¬ (x0 = y0 ∧ x1 = y1)))) w :=
  Sv.run_neq_of (p := x0 = y0 ∧ x1 = y1) (fun _ _ => by simp) (fun _ => by simp) (fun _ _ => by simp) (fun _ _ _ => by simp) (fun w => SEQ40 9998 x0 y0 x1 y1 w) w
theorem T34 : Try.f34.ntmps = 95 := by kernel_rfl
theorem T36 : Try.f36.ntmps = 9 := by kernel_rfl
theorem F40_1 (b o : Nat) (w : World) : (Instr.fieldAt 40 (.pointer (some ⟨b, o, none⟩)) 1).run Try.prog w = .ok (.pointer (some ⟨b, o + 1, none⟩)) w := by kernel_rfl
theorem T35 : Try.f35.ntmps = 19 := by kernel_rfl
theorem B36 : Try.f36.body.isSome = true := by kernel_rfl
theorem N36 : (Try.f36.name == "runtime.NumGoroutine") = false := by kernel_rfl
theorem T19 : Try.f19.ntmps = 65 := by kernel_rfl
theorem B33 : Try.f33.body.isSome = true := by kernel_rfl
theorem N33 : (Try.f33.name == "runtime.NumGoroutine") = false := by kernel_rfl
theorem Bd40_1 (x1 : Int) (w : World) : (Instr.build 40 [(1, .int .u64 x1)].toArray).run Try.prog w = .ok (.agg [.bool false, .int .u64 x1].toArray) w := by kernel_rfl
theorem Bs35_1_0 (x00 x01 : Value) (w : World) : (Instr.buildSlice 35 1 [(0, .agg #[x00, x01])].toArray).run Try.prog w = .ok (.slice (some ⟨w.heap.size, 0, none⟩) 1 1) (w.alloc (.cells [x00, x01].toArray 40)) := by kernel_rfl
theorem Bd40_0_1 (x0 : Bool) (x1 : Int) (w : World) : (Instr.build 40 [(0, .bool x0), (1, .int .u64 x1)].toArray).run Try.prog w = .ok (.agg [.bool x0, .int .u64 x1].toArray) w := by kernel_rfl
theorem B34 : Try.f34.body.isSome = true := by kernel_rfl
theorem N34 : (Try.f34.name == "runtime.NumGoroutine") = false := by kernel_rfl
theorem T20 : Try.f20.ntmps = 71 := by kernel_rfl
theorem Bs35_2_0_1 (x00 x01 : Value) (x10 x11 : Value) (w : World) : (Instr.buildSlice 35 2 [(0, .agg #[x00, x01]), (1, .agg #[x10, x11])].toArray).run Try.prog w = .ok (.slice (some ⟨w.heap.size, 0, none⟩) 2 2) (w.alloc (.cells [x00, x01, x10, x11].toArray 40)) := by kernel_rfl
end Go.Proofs.Ytaafpnoffdcbnaa
