/-
  Facts off the tables of the program.
-/
import Derived.Test.YtcmalbkflbfidaaProg
import Derived.Test.YtcmalbkflbfidaaTab2
set_option linter.unusedSimpArgs false
set_option linter.unusedVariables false
namespace Go.Proofs.Ytcmalbkflbfidaa
open Go
theorem T34 : Try.f34.ntmps = 8 := by kernel_rfl
theorem Bs22_0_  (w : World) : (Instr.buildSlice 22 0 [].toArray).run Try.prog w = .ok (.slice (some ⟨w.heap.size, 0, none⟩) 0 0) (w.alloc (.cells [].toArray 35)) := by kernel_rfl
theorem T38 : Try.f38.ntmps = 8 := by kernel_rfl
theorem Bs57_0_  (w : World) : (Instr.buildSlice 57 0 [].toArray).run Try.prog w = .ok (.slice (some ⟨w.heap.size, 0, none⟩) 0 0) (w.alloc (.cells [].toArray 3)) := by kernel_rfl
theorem T39 : Try.f39.ntmps = 8 := by kernel_rfl
theorem Bs43_0_  (w : World) : (Instr.buildSlice 43 0 [].toArray).run Try.prog w = .ok (.slice (some ⟨w.heap.size, 0, none⟩) 0 0) (w.alloc (.cells [].toArray 33)) := by kernel_rfl
theorem T50 : Try.f50.ntmps = 19 := by kernel_rfl
theorem SI70 : Try.prog.stoodInHeld 70 = false := by kernel_rfl
theorem SEQ70 (d : Nat) (x0 : Int) (y0 : Int) (x1 : Int) (y1 : Int) (w : World) : (Op.equalIn (d + 2) 70 (.agg #[.int .i64 x0, .int .i64 x1]) (.agg #[.int .i64 y0, .int .i64 y1])).run Try.prog w = .ok (decide (x0 = y0 ∧ x1 = y1)) w := by
  have p0 : ∀ w, (part 3 #[.int .i64 x0, .int .i64 x1] 0).run Try.prog w = .ok (.int .i64 x0) w := fun w => by kernel_rfl
  have q0 : ∀ w, (part 3 #[.int .i64 y0, .int .i64 y1] 0).run Try.prog w = .ok (.int .i64 y0) w := fun w => by kernel_rfl
  have p1 : ∀ w, (part 3 #[.int .i64 x0, .int .i64 x1] 1).run Try.prog w = .ok (.int .i64 x1) w := fun w => by kernel_rfl
  have q1 : ∀ w, (part 3 #[.int .i64 y0, .int .i64 y1] 1).run Try.prog w = .ok (.int .i64 y1) w := fun w => by kernel_rfl
  rw [Op.equalIn]
  simp only [Sem.run_bind, run_underlying Try.underlying70, Result.andThen_ok]
  simp [SI70, p0, q0, p1, q1, Sv.equalIn_int d Try.underlying3]
  (repeat' split) <;> simp_all
theorem I4 : Sv.TI Try.prog 4 (.bool false) 1 1 := by unfold Sv.TI; kernel_rfl
theorem T43 : Try.f43.ntmps = 63 := by kernel_rfl
theorem I70 : Sv.TI Try.prog 70 (.agg #[.int .i64 0, .int .i64 0]) 2 16 := by unfold Sv.TI; kernel_rfl
theorem F70_0 (b o : Nat) (w : World) : (Instr.fieldAt 70 (.pointer (some ⟨b, o, none⟩)) 0).run Try.prog w = .ok (.pointer (some ⟨b, o, none⟩)) w := by kernel_rfl
theorem F70_1 (b o : Nat) (w : World) : (Instr.fieldAt 70 (.pointer (some ⟨b, o, none⟩)) 1).run Try.prog w = .ok (.pointer (some ⟨b, o + 1, none⟩)) w := by kernel_rfl
end Go.Proofs.Ytcmalbkflbfidaa
