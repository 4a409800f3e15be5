/-
  Facts off the tables of the program.
-/
import Derived.Test.YtaafpnoffdcbnaaProg
import Derived.Test.YtaafpnoffdcbnaaSv9
set_option linter.unusedSimpArgs false
set_option linter.unusedVariables false
namespace Go.Proofs.Ytaafpnoffdcbnaa
open Go
theorem T14 : Try.f14.ntmps = 11 := by kernel_rfl
theorem T17 : Try.f17.ntmps = 66 := by kernel_rfl
theorem I25 : Sv.TI Try.prog 25 (.agg #[.int .u64 0, .int .u64 0, .int .u64 0]) 3 24 := by unfold Sv.TI; kernel_rfl
theorem F25_0 (b o : Nat) (w : World) : (Instr.fieldAt 25 (.pointer (some ⟨b, o, none⟩)) 0).run Try.prog w = .ok (.pointer (some ⟨b, o, none⟩)) w := by kernel_rfl
theorem F25_1 (b o : Nat) (w : World) : (Instr.fieldAt 25 (.pointer (some ⟨b, o, none⟩)) 1).run Try.prog w = .ok (.pointer (some ⟨b, o + 1, none⟩)) w := by kernel_rfl
theorem F25_2 (b o : Nat) (w : World) : (Instr.fieldAt 25 (.pointer (some ⟨b, o, none⟩)) 2).run Try.prog w = .ok (.pointer (some ⟨b, o + 2, none⟩)) w := by kernel_rfl
theorem T18 : Try.f18.ntmps = 76 := by kernel_rfl
theorem T15 : Try.f15.ntmps = 27 := by kernel_rfl
theorem B17 : Try.f17.body.isSome = true := by kernel_rfl
theorem N17 : (Try.f17.name == "runtime.NumGoroutine") = false := by kernel_rfl
theorem T16 : Try.f16.ntmps = 27 := by kernel_rfl
theorem B18 : Try.f18.body.isSome = true := by kernel_rfl
theorem N18 : (Try.f18.name == "runtime.NumGoroutine") = false := by kernel_rfl
theorem T33 : Try.f33.ntmps = 13 := by kernel_rfl
theorem T37 : Try.f37.ntmps = 8 := by kernel_rfl
theorem Bs22_0_  (w : World) : (Instr.buildSlice 22 0 [].toArray).run Try.prog w = .ok (.slice (some ⟨w.heap.size, 0, none⟩) 0 0) (w.alloc (.cells [].toArray 25)) := by kernel_rfl
end Go.Proofs.Ytaafpnoffdcbnaa
