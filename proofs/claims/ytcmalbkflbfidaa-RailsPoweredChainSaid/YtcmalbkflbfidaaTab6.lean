/-
  Facts off the tables of the program.
-/
import Derived.Test.YtcmalbkflbfidaaProg
import Derived.Test.YtcmalbkflbfidaaTab5
set_option linter.unusedSimpArgs false
set_option linter.unusedVariables false
namespace Go.Proofs.Ytcmalbkflbfidaa
open Go
theorem T16 : Try.f16.ntmps = 11 := by kernel_rfl
theorem T19 : Try.f19.ntmps = 30 := by kernel_rfl
theorem F48_3 (b o : Nat) (w : World) : (Instr.fieldAt 48 (.pointer (some ⟨b, o, none⟩)) 3).run Try.prog w = .ok (.pointer (some ⟨b, o + 3, none⟩)) w := by kernel_rfl
theorem F48_1 (b o : Nat) (w : World) : (Instr.fieldAt 48 (.pointer (some ⟨b, o, none⟩)) 1).run Try.prog w = .ok (.pointer (some ⟨b, o + 1, none⟩)) w := by kernel_rfl
theorem F48_2 (b o : Nat) (w : World) : (Instr.fieldAt 48 (.pointer (some ⟨b, o, none⟩)) 2).run Try.prog w = .ok (.pointer (some ⟨b, o + 2, none⟩)) w := by kernel_rfl
theorem B16 : Try.f16.body.isSome = true := by kernel_rfl
theorem N16 : (Try.f16.name == "runtime.NumGoroutine") = false := by kernel_rfl
theorem T20 : Try.f20.ntmps = 33 := by kernel_rfl
theorem I48 : Sv.TI Try.prog 48 (.agg #[.bool false, .int .i64 0, .int .u64 0, .bool false]) 4 32 := by unfold Sv.TI; kernel_rfl
theorem B19 : Try.f19.body.isSome = true := by kernel_rfl
theorem N19 : (Try.f19.name == "runtime.NumGoroutine") = false := by kernel_rfl
theorem F48_0 (b o : Nat) (w : World) : (Instr.fieldAt 48 (.pointer (some ⟨b, o, none⟩)) 0).run Try.prog w = .ok (.pointer (some ⟨b, o, none⟩)) w := by kernel_rfl
theorem B32 : Try.f32.body.isSome = true := by kernel_rfl
theorem N32 : (Try.f32.name == "runtime.NumGoroutine") = false := by kernel_rfl
theorem B31 : Try.f31.body.isSome = true := by kernel_rfl
theorem N31 : (Try.f31.name == "runtime.NumGoroutine") = false := by kernel_rfl
theorem T23 : Try.f23.ntmps = 33 := by kernel_rfl
theorem B36 : Try.f36.body.isSome = true := by kernel_rfl
theorem N36 : (Try.f36.name == "runtime.NumGoroutine") = false := by kernel_rfl
theorem B37 : Try.f37.body.isSome = true := by kernel_rfl
theorem N37 : (Try.f37.name == "runtime.NumGoroutine") = false := by kernel_rfl
theorem T24 : Try.f24.ntmps = 26 := by kernel_rfl
theorem EG45neq (x y : Operand) (xs ys : Array Value) (w : World) : (eqGuard .neq 45 x y (.agg xs) (.agg ys)).run Try.prog w = .ok () w := by kernel_rfl
theorem SI45 : Try.prog.stoodInHeld 45 = false := by kernel_rfl
theorem SEQ45 (d : Nat) (x0 : Int) (y0 : Int) (x1 : Bool) (y1 : Bool) (x2 : Int) (y2 : Int) (x3 : Int) (y3 : Int) (w : World) : (Op.equalIn (d + 2) 45 (.agg #[.int .i64 x0, .bool x1, .int .u64 x2, .int .u64 x3]) (.agg #[.int .i64 y0, .bool y1, .int .u64 y2, .int .u64 y3])).run Try.prog w = .ok (decide (x0 = y0 ∧ x1 = y1 ∧ x2 = y2 ∧ x3 = y3)) w := by
  have p0 : ∀ w, (part 3 #[.int .i64 x0, .bool x1, .int .u64 x2, .int .u64 x3] 0).run Try.prog w = .ok (.int .i64 x0) w := fun w => by kernel_rfl
  have q0 : ∀ w, (part 3 #[.int .i64 y0, .bool y1, .int .u64 y2, .int .u64 y3] 0).run Try.prog w = .ok (.int .i64 y0) w := fun w => by kernel_rfl
  have p1 : ∀ w, (part 4 #[.int .i64 x0, .bool x1, .int .u64 x2, .int .u64 x3] 1).run Try.prog w = .ok (.bool x1) w := fun w => by kernel_rfl
  have q1 : ∀ w, (part 4 #[.int .i64 y0, .bool y1, .int .u64 y2, .int .u64 y3] 1).run Try.prog w = .ok (.bool y1) w := fun w => by kernel_rfl
  have p2 : ∀ w, (part 33 #[.int .i64 x0, .bool x1, .int .u64 x2, .int .u64 x3] 2).run Try.prog w = .ok (.int .u64 x2) w := fun w => by kernel_rfl
  have q2 : ∀ w, (part 33 #[.int .i64 y0, .bool y1, .int .u64 y2, .int .u64 y3] 2).run Try.prog w = .ok (.int .u64 y2) w := fun w => by kernel_rfl
  have p3 : ∀ w, (part 33 #[.int .i64 x0, .bool x1, .int .u64 x2, .int .u64 x3] 3).run Try.prog w = .ok (.int .u64 x3) w := fun w => by kernel_rfl
  have q3 : ∀ w, (part 33 #[.int .i64 y0, .bool y1, .int .u64 y2, .int .u64 y3] 3).run Try.prog w = .ok (.int .u64 y3) w := fun w => by kernel_rfl
  rw [Op.equalIn]
  simp only [Sem.run_bind, run_underlying Try.underlying45, Result.andThen_ok]
  simp [SI45, p0, q0, p1, q1, p2, q2, p3, q3, Sv.equalIn_bool d Try.underlying4, Sv.equalIn_int d Try.underlying3, Sv.equalIn_int d Try.underlying33]
  (repeat' split) <;> simp_all
theorem EQ45neq (x0 : Int) (x1 : Bool) (x2 : Int) (x3 : Int) (y0 : Int) (y1 : Bool) (y2 : Int) (y3 : Int) (w : World) : (binOp .neq 45 (.agg #[.int .i64 x0, .bool x1, .int .u64 x2, .int .u64 x3]) (.agg #[.int .i64 y0, .bool y1, .int .u64 y2, .int .u64 y3])).run Try.prog w = .ok (.bool (decide (¬ (x0 = y0 ∧ x1 = y1 ∧ x2 = y2 ∧ x3 = y3)))) w :=
  Sv.run_neq_of (p := x0 = y0 ∧ x1 = y1 ∧ x2 = y2 ∧ x3 = y3) (fun _ _ => by simp) (fun _ => by simp) (fun _ _ => by simp) (fun _ _ _ => by simp) (fun w => SEQ45 9998 x0 y0 x1 y1 x2 y2 x3 y3 w) w
theorem T18 : Try.f18.ntmps = 27 := by kernel_rfl
theorem F45_0 (b o : Nat) (w : World) : (Instr.fieldAt 45 (.pointer (some ⟨b, o, none⟩)) 0).run Try.prog w = .ok (.pointer (some ⟨b, o, none⟩)) w := by kernel_rfl
theorem T15 : Try.f15.ntmps = 79 := by kernel_rfl
theorem Bd35_0_1_2 (x0 : Int) (x1 : Int) (x2 : Int) (w : World) : (Instr.build 35 [(0, .int .i64 x0), (1, .int .u64 x1), (2, .int .u64 x2)].toArray).run Try.prog w = .ok (.agg [.int .i64 x0, .int .u64 x1, .int .u64 x2].toArray) w := by kernel_rfl
theorem Bs22_1_0 (x00 x01 x02 : Value) (w : World) : (Instr.buildSlice 22 1 [(0, .agg #[x00, x01, x02])].toArray).run Try.prog w = .ok (.slice (some ⟨w.heap.size, 0, none⟩) 1 1) (w.alloc (.cells [x00, x01, x02].toArray 35)) := by kernel_rfl
end Go.Proofs.Ytcmalbkflbfidaa
