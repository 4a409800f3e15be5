/-
  Texts joined: Tab1, Tab2, Tab3, Tab4, Tab5, Tab6, Tab7, Tab8, Tab9, Tab10, Tab11, Tab12, Tab13, Tab14, Tab15, Tab16, Tab17, Tab18.
-/
import Derived.Test.YtplmfekhdaefaaaDoorProg
import Derived.Test.YtplmfekhdaefaaaDoorSvC
set_option linter.unusedSimpArgs false
set_option linter.unusedVariables false
namespace Go.Proofs.YtplmfekhdaefaaaDoor
open Go
theorem T70 : Tryd.f70.ntmps = 9 := by kernel_rfl
theorem T58 : Tryd.f58.ntmps = 25 := by kernel_rfl
theorem B70 : Tryd.f70.body.isSome = true := by kernel_rfl
theorem N70 : (Tryd.f70.name == "runtime.NumGoroutine") = false := by kernel_rfl
theorem T63 : Tryd.f63.ntmps = 29 := by kernel_rfl
theorem T53 : Tryd.f53.ntmps = 27 := by kernel_rfl
theorem B58 : Tryd.f58.body.isSome = true := by kernel_rfl
theorem N58 : (Tryd.f58.name == "runtime.NumGoroutine") = false := by kernel_rfl
end Go.Proofs.YtplmfekhdaefaaaDoor
set_option linter.unusedSimpArgs false
set_option linter.unusedVariables false
namespace Go.Proofs.YtplmfekhdaefaaaDoor
open Go
theorem T51 : Tryd.f51.ntmps = 55 := by kernel_rfl
theorem T41 : Tryd.f41.ntmps = 25 := by kernel_rfl
theorem I9 : Sv.TI Tryd.prog 9 (.string (Sv.bs [])) 1 16 := by unfold Sv.TI; kernel_rfl
theorem T52 : Tryd.f52.ntmps = 83 := by kernel_rfl
theorem F61_0 (b o : Nat) (w : World) : (Instr.fieldAt 61 (.pointer (some ⟨b, o, none⟩)) 0).run Tryd.prog w = .ok (.pointer (some ⟨b, o, none⟩)) w := by kernel_rfl
theorem F61_4 (b o : Nat) (w : World) : (Instr.fieldAt 61 (.pointer (some ⟨b, o, none⟩)) 4).run Tryd.prog w = .ok (.pointer (some ⟨b, o + 7, none⟩)) w := by kernel_rfl
theorem F61_1 (b o : Nat) (w : World) : (Instr.fieldAt 61 (.pointer (some ⟨b, o, none⟩)) 1).run Tryd.prog w = .ok (.pointer (some ⟨b, o + 1, none⟩)) w := by kernel_rfl
theorem B51 : Tryd.f51.body.isSome = true := by kernel_rfl
theorem N51 : (Tryd.f51.name == "runtime.NumGoroutine") = false := by kernel_rfl
theorem F61_3 (b o : Nat) (w : World) : (Instr.fieldAt 61 (.pointer (some ⟨b, o, none⟩)) 3).run Tryd.prog w = .ok (.pointer (some ⟨b, o + 6, none⟩)) w := by kernel_rfl
theorem F61_2 (b o : Nat) (w : World) : (Instr.fieldAt 61 (.pointer (some ⟨b, o, none⟩)) 2).run Tryd.prog w = .ok (.pointer (some ⟨b, o + 2, none⟩)) w := by kernel_rfl
theorem F59_0 (b o : Nat) (w : World) : (Instr.fieldAt 59 (.pointer (some ⟨b, o, none⟩)) 0).run Tryd.prog w = .ok (.pointer (some ⟨b, o, none⟩)) w := by kernel_rfl
theorem F59_1 (b o : Nat) (w : World) : (Instr.fieldAt 59 (.pointer (some ⟨b, o, none⟩)) 1).run Tryd.prog w = .ok (.pointer (some ⟨b, o + 1, none⟩)) w := by kernel_rfl
theorem F59_2 (b o : Nat) (w : World) : (Instr.fieldAt 59 (.pointer (some ⟨b, o, none⟩)) 2).run Tryd.prog w = .ok (.pointer (some ⟨b, o + 2, none⟩)) w := by kernel_rfl
theorem F59_3 (b o : Nat) (w : World) : (Instr.fieldAt 59 (.pointer (some ⟨b, o, none⟩)) 3).run Tryd.prog w = .ok (.pointer (some ⟨b, o + 3, none⟩)) w := by kernel_rfl
theorem I71 : Sv.TI Tryd.prog 71 (.agg #[.bool false, .int .u64 0, .int .u64 0]) 3 24 := by unfold Sv.TI; kernel_rfl
theorem F71_0 (b o : Nat) (w : World) : (Instr.fieldAt 71 (.pointer (some ⟨b, o, none⟩)) 0).run Tryd.prog w = .ok (.pointer (some ⟨b, o, none⟩)) w := by kernel_rfl
theorem F71_2 (b o : Nat) (w : World) : (Instr.fieldAt 71 (.pointer (some ⟨b, o, none⟩)) 2).run Tryd.prog w = .ok (.pointer (some ⟨b, o + 2, none⟩)) w := by kernel_rfl
end Go.Proofs.YtplmfekhdaefaaaDoor
set_option linter.unusedSimpArgs false
set_option linter.unusedVariables false
namespace Go.Proofs.YtplmfekhdaefaaaDoor
open Go
theorem T31 : Tryd.f31.ntmps = 81 := by kernel_rfl
theorem F26_0 (b o : Nat) (w : World) : (Instr.fieldAt 26 (.pointer (some ⟨b, o, none⟩)) 0).run Tryd.prog w = .ok (.pointer (some ⟨b, o, none⟩)) w := by kernel_rfl
theorem F26_1 (b o : Nat) (w : World) : (Instr.fieldAt 26 (.pointer (some ⟨b, o, none⟩)) 1).run Tryd.prog w = .ok (.pointer (some ⟨b, o + 1, none⟩)) w := by kernel_rfl
theorem F26_2 (b o : Nat) (w : World) : (Instr.fieldAt 26 (.pointer (some ⟨b, o, none⟩)) 2).run Tryd.prog w = .ok (.pointer (some ⟨b, o + 2, none⟩)) w := by kernel_rfl
theorem I61 : Sv.TI Tryd.prog 61 (.agg #[.int .i64 0, .string (Sv.bs []), .bool false, .int .u64 0, .int .u64 0, .int .u64 0, .slice none 0 0, .int .i64 0]) 8 88 := by unfold Sv.TI; kernel_rfl
theorem B52 : Tryd.f52.body.isSome = true := by kernel_rfl
theorem N52 : (Tryd.f52.name == "runtime.NumGoroutine") = false := by kernel_rfl
theorem B41 : Tryd.f41.body.isSome = true := by kernel_rfl
theorem N41 : (Tryd.f41.name == "runtime.NumGoroutine") = false := by kernel_rfl
theorem T72 : Tryd.f72.ntmps = 11 := by kernel_rfl
theorem T84 : Tryd.f84.ntmps = 19 := by kernel_rfl
theorem B72 : Tryd.f72.body.isSome = true := by kernel_rfl
theorem N72 : (Tryd.f72.name == "runtime.NumGoroutine") = false := by kernel_rfl
theorem T71 : Tryd.f71.ntmps = 9 := by kernel_rfl
theorem B84 : Tryd.f84.body.isSome = true := by kernel_rfl
theorem N84 : (Tryd.f84.name == "runtime.NumGoroutine") = false := by kernel_rfl
theorem T54 : Tryd.f54.ntmps = 51 := by kernel_rfl
theorem B53 : Tryd.f53.body.isSome = true := by kernel_rfl
theorem N53 : (Tryd.f53.name == "runtime.NumGoroutine") = false := by kernel_rfl
theorem I59 : Sv.TI Tryd.prog 59 (.agg #[.bool false, .int .u64 0, .int .u64 0, .int .u64 0]) 4 32 := by unfold Sv.TI; kernel_rfl
theorem Bd59_  (w : World) : (Instr.build 59 [].toArray).run Tryd.prog w = .ok (.agg [.bool false, .int .u64 0, .int .u64 0, .int .u64 0].toArray) w := by kernel_rfl
theorem EG59neq (x y : Operand) (xs ys : Array Value) (w : World) : (eqGuard .neq 59 x y (.agg xs) (.agg ys)).run Tryd.prog w = .ok () w := by kernel_rfl
theorem SI59 : Tryd.prog.stoodInHeld 59 = false := by kernel_rfl
theorem SEQ59 (d : Nat) (x0 : Bool) (y0 : Bool) (x1 : Int) (y1 : Int) (x2 : Int) (y2 : Int) (x3 : Int) (y3 : Int) (w : World) : (Op.equalIn (d + 2) 59 (.agg #[.bool x0, .int .u64 x1, .int .u64 x2, .int .u64 x3]) (.agg #[.bool y0, .int .u64 y1, .int .u64 y2, .int .u64 y3])).run Tryd.prog w = .ok (decide (x0 = y0 ∧ x1 = y1 ∧ x2 = y2 ∧ x3 = y3)) w := by
  have p0 : ∀ w, (part 4 #[.bool x0, .int .u64 x1, .int .u64 x2, .int .u64 x3] 0).run Tryd.prog w = .ok (.bool x0) w := fun w => by kernel_rfl
  have q0 : ∀ w, (part 4 #[.bool y0, .int .u64 y1, .int .u64 y2, .int .u64 y3] 0).run Tryd.prog w = .ok (.bool y0) w := fun w => by kernel_rfl
  have p1 : ∀ w, (part 51 #[.bool x0, .int .u64 x1, .int .u64 x2, .int .u64 x3] 1).run Tryd.prog w = .ok (.int .u64 x1) w := fun w => by kernel_rfl
  have q1 : ∀ w, (part 51 #[.bool y0, .int .u64 y1, .int .u64 y2, .int .u64 y3] 1).run Tryd.prog w = .ok (.int .u64 y1) w := fun w => by kernel_rfl
  have p2 : ∀ w, (part 51 #[.bool x0, .int .u64 x1, .int .u64 x2, .int .u64 x3] 2).run Tryd.prog w = .ok (.int .u64 x2) w := fun w => by kernel_rfl
  have q2 : ∀ w, (part 51 #[.bool y0, .int .u64 y1, .int .u64 y2, .int .u64 y3] 2).run Tryd.prog w = .ok (.int .u64 y2) w := fun w => by kernel_rfl
  have p3 : ∀ w, (part 51 #[.bool x0, .int .u64 x1, .int .u64 x2, .int .u64 x3] 3).run Tryd.prog w = .ok (.int .u64 x3) w := fun w => by kernel_rfl
  have q3 : ∀ w, (part 51 #[.bool y0, .int .u64 y1, .int .u64 y2, .int .u64 y3] 3).run Tryd.prog w = .ok (.int .u64 y3) w := fun w => by kernel_rfl
  rw [Op.equalIn]
  simp only [Sem.run_bind, run_underlying Tryd.underlying59, Result.andThen_ok]
  simp [SI59, p0, q0, p1, q1, p2, q2, p3, q3, Sv.equalIn_bool d Tryd.underlying4, Sv.equalIn_int d Tryd.underlying51]
  (repeat' split) <;> simp_all
theorem EQ59neq (x0 : Bool) (x1 : Int) (x2 : Int) (x3 : Int) (y0 : Bool) (y1 : Int) (y2 : Int) (y3 : Int) (w : World) : (binOp .neq 59 (.agg #[.bool x0, .int .u64 x1, .int .u64 x2, .int .u64 x3]) (.agg #[.bool y0, .int .u64 y1, .int .u64 y2, .int .u64 y3])).run Tryd.prog w = .ok (.bool (decide (¬ (x0 = y0 ∧ x1 = y1 ∧ x2 = y2 ∧ x3 = y3)))) w :=
  Sv.run_neq_of (p := x0 = y0 ∧ x1 = y1 ∧ x2 = y2 ∧ x3 = y3) (fun _ _ => by simp) (fun _ => by simp) (fun _ _ => by simp) (fun _ _ _ => by simp) (fun w => SEQ59 9998 x0 y0 x1 y1 x2 y2 x3 y3 w) w
theorem B71 : Tryd.f71.body.isSome = true := by kernel_rfl
theorem N71 : (Tryd.f71.name == "runtime.NumGoroutine") = false := by kernel_rfl
theorem I4 : Sv.TI Tryd.prog 4 (.bool false) 1 1 := by unfold Sv.TI; kernel_rfl
theorem T37 : Tryd.f37.ntmps = 21 := by kernel_rfl
theorem T32 : Tryd.f32.ntmps = 66 := by kernel_rfl
theorem B54 : Tryd.f54.body.isSome = true := by kernel_rfl
theorem N54 : (Tryd.f54.name == "runtime.NumGoroutine") = false := by kernel_rfl
theorem B37 : Tryd.f37.body.isSome = true := by kernel_rfl
theorem N37 : (Tryd.f37.name == "runtime.NumGoroutine") = false := by kernel_rfl
end Go.Proofs.YtplmfekhdaefaaaDoor
set_option linter.unusedSimpArgs false
set_option linter.unusedVariables false
namespace Go.Proofs.YtplmfekhdaefaaaDoor
open Go
theorem X99a : (Tryd.f99.name == "runtime.NumGoroutine") = false := by kernel_rfl
theorem X99b : Tryd.f99.body.isNone = true := by kernel_rfl
theorem X99c : Extern.findNext Tryd.f99 = none := by kernel_rfl
theorem X99d : Extern.find Tryd.f99 = some Extern.BytealgIndexByte.indexByte := by kernel_rfl
theorem T89 : Tryd.f89.ntmps = 8 := by kernel_rfl
theorem T86 : Tryd.f86.ntmps = 143 := by kernel_rfl
theorem B89 : Tryd.f89.body.isSome = true := by kernel_rfl
theorem N89 : (Tryd.f89.name == "runtime.NumGoroutine") = false := by kernel_rfl
theorem T75 : Tryd.f75.ntmps = 8 := by kernel_rfl
theorem B86 : Tryd.f86.body.isSome = true := by kernel_rfl
theorem N86 : (Tryd.f86.name == "runtime.NumGoroutine") = false := by kernel_rfl
theorem T76 : Tryd.f76.ntmps = 23 := by kernel_rfl
theorem T56 : Tryd.f56.ntmps = 13 := by kernel_rfl
theorem B76 : Tryd.f76.body.isSome = true := by kernel_rfl
theorem N76 : (Tryd.f76.name == "runtime.NumGoroutine") = false := by kernel_rfl
theorem T77 : Tryd.f77.ntmps = 18 := by kernel_rfl
theorem T57 : Tryd.f57.ntmps = 8 := by kernel_rfl
theorem B77 : Tryd.f77.body.isSome = true := by kernel_rfl
theorem N77 : (Tryd.f77.name == "runtime.NumGoroutine") = false := by kernel_rfl
end Go.Proofs.YtplmfekhdaefaaaDoor
set_option linter.unusedSimpArgs false
set_option linter.unusedVariables false
namespace Go.Proofs.YtplmfekhdaefaaaDoor
open Go
theorem I115 : Sv.TI Tryd.prog 115 (.agg #[.int .i64 0, .string (Sv.bs []), .int .u64 0]) 3 32 := by unfold Sv.TI; kernel_rfl
theorem T59 : Tryd.f59.ntmps = 46 := by kernel_rfl
theorem Bd115_0_1 (x0 : Int) (x1 : ByteArray) (w : World) : (Instr.build 115 [(0, .int .i64 x0), (1, .string x1)].toArray).run Tryd.prog w = .ok (.agg [.int .i64 x0, .string x1, .int .u64 0].toArray) w := by kernel_rfl
theorem Bd115_  (w : World) : (Instr.build 115 [].toArray).run Tryd.prog w = .ok (.agg [.int .i64 0, .string (Sv.bs []), .int .u64 0].toArray) w := by kernel_rfl
theorem B78 : Tryd.f78.body.isSome = true := by kernel_rfl
theorem N78 : (Tryd.f78.name == "runtime.NumGoroutine") = false := by kernel_rfl
theorem Bd115_0_2 (x0 : Int) (x2 : Int) (w : World) : (Instr.build 115 [(0, .int .i64 x0), (2, .int .u64 x2)].toArray).run Tryd.prog w = .ok (.agg [.int .i64 x0, .string (Sv.bs []), .int .u64 x2].toArray) w := by kernel_rfl
theorem T35 : Tryd.f35.ntmps = 98 := by kernel_rfl
theorem B56 : Tryd.f56.body.isSome = true := by kernel_rfl
theorem N56 : (Tryd.f56.name == "runtime.NumGoroutine") = false := by kernel_rfl
theorem Bs78_1_0 (x00 x01 x02 : Value) (w : World) : (Instr.buildSlice 78 1 [(0, .agg #[x00, x01, x02])].toArray).run Tryd.prog w = .ok (.slice (some ⟨w.heap.size, 0, none⟩) 1 1) (w.alloc (.cells [x00, x01, x02].toArray 115)) := by kernel_rfl
theorem B57 : Tryd.f57.body.isSome = true := by kernel_rfl
theorem N57 : (Tryd.f57.name == "runtime.NumGoroutine") = false := by kernel_rfl
theorem B59 : Tryd.f59.body.isSome = true := by kernel_rfl
theorem N59 : (Tryd.f59.name == "runtime.NumGoroutine") = false := by kernel_rfl
end Go.Proofs.YtplmfekhdaefaaaDoor
set_option linter.unusedSimpArgs false
set_option linter.unusedVariables false
namespace Go.Proofs.YtplmfekhdaefaaaDoor
open Go
theorem T61 : Tryd.f61.ntmps = 13 := by kernel_rfl
theorem F122_1 (b o : Nat) (w : World) : (Instr.fieldAt 122 (.pointer (some ⟨b, o, none⟩)) 1).run Tryd.prog w = .ok (.pointer (some ⟨b, o + 1, none⟩)) w := by kernel_rfl
theorem F122_0 (b o : Nat) (w : World) : (Instr.fieldAt 122 (.pointer (some ⟨b, o, none⟩)) 0).run Tryd.prog w = .ok (.pointer (some ⟨b, o, none⟩)) w := by kernel_rfl
theorem T60 : Tryd.f60.ntmps = 39 := by kernel_rfl
theorem B61 : Tryd.f61.body.isSome = true := by kernel_rfl
theorem N61 : (Tryd.f61.name == "runtime.NumGoroutine") = false := by kernel_rfl
theorem F115_0 (b o : Nat) (w : World) : (Instr.fieldAt 115 (.pointer (some ⟨b, o, none⟩)) 0).run Tryd.prog w = .ok (.pointer (some ⟨b, o, none⟩)) w := by kernel_rfl
theorem I3 : Sv.TI Tryd.prog 3 (.int .i64 0) 1 8 := by unfold Sv.TI; kernel_rfl
theorem F115_1 (b o : Nat) (w : World) : (Instr.fieldAt 115 (.pointer (some ⟨b, o, none⟩)) 1).run Tryd.prog w = .ok (.pointer (some ⟨b, o + 1, none⟩)) w := by kernel_rfl
theorem T79 : Tryd.f79.ntmps = 46 := by kernel_rfl
theorem I51 : Sv.TI Tryd.prog 51 (.int .u64 0) 1 8 := by unfold Sv.TI; kernel_rfl
theorem T80 : Tryd.f80.ntmps = 41 := by kernel_rfl
theorem F115_2 (b o : Nat) (w : World) : (Instr.fieldAt 115 (.pointer (some ⟨b, o, none⟩)) 2).run Tryd.prog w = .ok (.pointer (some ⟨b, o + 2, none⟩)) w := by kernel_rfl
end Go.Proofs.YtplmfekhdaefaaaDoor
set_option linter.unusedSimpArgs false
set_option linter.unusedVariables false
namespace Go.Proofs.YtplmfekhdaefaaaDoor
open Go
theorem T81 : Tryd.f81.ntmps = 29 := by kernel_rfl
theorem B79 : Tryd.f79.body.isSome = true := by kernel_rfl
theorem N79 : (Tryd.f79.name == "runtime.NumGoroutine") = false := by kernel_rfl
theorem F71_1 (b o : Nat) (w : World) : (Instr.fieldAt 71 (.pointer (some ⟨b, o, none⟩)) 1).run Tryd.prog w = .ok (.pointer (some ⟨b, o + 1, none⟩)) w := by kernel_rfl
theorem B80 : Tryd.f80.body.isSome = true := by kernel_rfl
theorem N80 : (Tryd.f80.name == "runtime.NumGoroutine") = false := by kernel_rfl
theorem T62 : Tryd.f62.ntmps = 89 := by kernel_rfl
theorem B60 : Tryd.f60.body.isSome = true := by kernel_rfl
theorem N60 : (Tryd.f60.name == "runtime.NumGoroutine") = false := by kernel_rfl
theorem B81 : Tryd.f81.body.isSome = true := by kernel_rfl
theorem N81 : (Tryd.f81.name == "runtime.NumGoroutine") = false := by kernel_rfl
theorem Bs46_1_0 (x00 x01 x02 : Value) (w : World) : (Instr.buildSlice 46 1 [(0, .agg #[x00, x01, x02])].toArray).run Tryd.prog w = .ok (.slice (some ⟨w.heap.size, 0, none⟩) 1 1) (w.alloc (.cells [x00, x01, x02].toArray 71)) := by kernel_rfl
theorem I46 : Sv.TI Tryd.prog 46 (.slice none 0 0) 1 24 := by unfold Sv.TI; kernel_rfl
end Go.Proofs.YtplmfekhdaefaaaDoor
set_option linter.unusedSimpArgs false
set_option linter.unusedVariables false
namespace Go.Proofs.YtplmfekhdaefaaaDoor
open Go
theorem T36 : Tryd.f36.ntmps = 120 := by kernel_rfl
theorem Bd122_0 (x0 : Option Addr) (x0n x0c : Nat) (w : World) : (Instr.build 122 [(0, .slice x0 x0n x0c)].toArray).run Tryd.prog w = .ok (.agg [.slice x0 x0n x0c, .int .i64 0].toArray) w := by kernel_rfl
theorem I122 : Sv.TI Tryd.prog 122 (.agg #[.slice none 0 0, .int .i64 0]) 2 32 := by unfold Sv.TI; kernel_rfl
theorem F74_1 (b o : Nat) (w : World) : (Instr.fieldAt 74 (.pointer (some ⟨b, o, none⟩)) 1).run Tryd.prog w = .ok (.pointer (some ⟨b, o + 3, none⟩)) w := by kernel_rfl
theorem F74_0 (b o : Nat) (w : World) : (Instr.fieldAt 74 (.pointer (some ⟨b, o, none⟩)) 0).run Tryd.prog w = .ok (.pointer (some ⟨b, o, none⟩)) w := by kernel_rfl
theorem Bs23_1_0 (x0 : ByteArray) (w : World) : (Instr.buildSlice 23 1 [(0, .string x0)].toArray).run Tryd.prog w = .ok (.slice (some ⟨w.heap.size, 0, none⟩) 1 1) (w.alloc (.cells [.string x0].toArray 9)) := by kernel_rfl
theorem I23 : Sv.TI Tryd.prog 23 (.slice none 0 0) 1 24 := by unfold Sv.TI; kernel_rfl
theorem B62 : Tryd.f62.body.isSome = true := by kernel_rfl
theorem N62 : (Tryd.f62.name == "runtime.NumGoroutine") = false := by kernel_rfl
theorem Bs24_1_0 (x00 x01 x02 x03 x04 x05 x06 x07 : Value) (w : World) : (Instr.buildSlice 24 1 [(0, .agg #[x00, x01, x02, x03, x04, x05, x06, x07])].toArray).run Tryd.prog w = .ok (.slice (some ⟨w.heap.size, 0, none⟩) 1 1) (w.alloc (.cells [x00, x01, x02, x03, x04, x05, x06, x07].toArray 61)) := by kernel_rfl
theorem I24 : Sv.TI Tryd.prog 24 (.slice none 0 0) 1 24 := by unfold Sv.TI; kernel_rfl
theorem F74_2 (b o : Nat) (w : World) : (Instr.fieldAt 74 (.pointer (some ⟨b, o, none⟩)) 2).run Tryd.prog w = .ok (.pointer (some ⟨b, o + 4, none⟩)) w := by kernel_rfl
end Go.Proofs.YtplmfekhdaefaaaDoor
set_option linter.unusedSimpArgs false
set_option linter.unusedVariables false
namespace Go.Proofs.YtplmfekhdaefaaaDoor
open Go
theorem T73 : Tryd.f73.ntmps = 52 := by kernel_rfl
theorem B75 : Tryd.f75.body.isSome = true := by kernel_rfl
theorem N75 : (Tryd.f75.name == "runtime.NumGoroutine") = false := by kernel_rfl
end Go.Proofs.YtplmfekhdaefaaaDoor
set_option linter.unusedSimpArgs false
set_option linter.unusedVariables false
namespace Go.Proofs.YtplmfekhdaefaaaDoor
open Go
theorem T55 : Tryd.f55.ntmps = 8 := by kernel_rfl
theorem T34 : Tryd.f34.ntmps = 8 := by kernel_rfl
theorem B55 : Tryd.f55.body.isSome = true := by kernel_rfl
theorem N55 : (Tryd.f55.name == "runtime.NumGoroutine") = false := by kernel_rfl
theorem I26 : Sv.TI Tryd.prog 26 (.agg #[.string (Sv.bs []), .slice none 0 0, .slice none 0 0]) 3 64 := by unfold Sv.TI; kernel_rfl
theorem T11 : Tryd.f11.ntmps = 93 := by kernel_rfl
theorem I27 : Sv.TI Tryd.prog 27 (.int .i64 0) 1 8 := by unfold Sv.TI; kernel_rfl
theorem I74 : Sv.TI Tryd.prog 74 (.agg #[.string (Sv.bs []), .slice none 0 0, .slice none 0 0, .bool false, .slice none 0 0]) 5 96 := by unfold Sv.TI; kernel_rfl
theorem B34 : Tryd.f34.body.isSome = true := by kernel_rfl
theorem N34 : (Tryd.f34.name == "runtime.NumGoroutine") = false := by kernel_rfl
theorem B73 : Tryd.f73.body.isSome = true := by kernel_rfl
theorem N73 : (Tryd.f73.name == "runtime.NumGoroutine") = false := by kernel_rfl
theorem B35 : Tryd.f35.body.isSome = true := by kernel_rfl
theorem N35 : (Tryd.f35.name == "runtime.NumGoroutine") = false := by kernel_rfl
theorem B36 : Tryd.f36.body.isSome = true := by kernel_rfl
theorem N36 : (Tryd.f36.name == "runtime.NumGoroutine") = false := by kernel_rfl
theorem Bd26_  (w : World) : (Instr.build 26 [].toArray).run Tryd.prog w = .ok (.agg [.string (Sv.bs []), .slice none 0 0, .slice none 0 0].toArray) w := by kernel_rfl
theorem B32 : Tryd.f32.body.isSome = true := by kernel_rfl
theorem N32 : (Tryd.f32.name == "runtime.NumGoroutine") = false := by kernel_rfl
end Go.Proofs.YtplmfekhdaefaaaDoor
set_option linter.unusedSimpArgs false
set_option linter.unusedVariables false
namespace Go.Proofs.YtplmfekhdaefaaaDoor
open Go
theorem T67 : Tryd.f67.ntmps = 8 := by kernel_rfl
theorem Bs23_0_  (w : World) : (Instr.buildSlice 23 0 [].toArray).run Tryd.prog w = .ok (.slice (some ⟨w.heap.size, 0, none⟩) 0 0) (w.alloc (.cells [].toArray 9)) := by kernel_rfl
theorem T68 : Tryd.f68.ntmps = 8 := by kernel_rfl
theorem Bs24_0_  (w : World) : (Instr.buildSlice 24 0 [].toArray).run Tryd.prog w = .ok (.slice (some ⟨w.heap.size, 0, none⟩) 0 0) (w.alloc (.cells [].toArray 61)) := by kernel_rfl
theorem T69 : Tryd.f69.ntmps = 8 := by kernel_rfl
theorem Bs46_0_  (w : World) : (Instr.buildSlice 46 0 [].toArray).run Tryd.prog w = .ok (.slice (some ⟨w.heap.size, 0, none⟩) 0 0) (w.alloc (.cells [].toArray 71)) := by kernel_rfl
end Go.Proofs.YtplmfekhdaefaaaDoor
set_option linter.unusedSimpArgs false
set_option linter.unusedVariables false
namespace Go.Proofs.YtplmfekhdaefaaaDoor
open Go
theorem T46 : Tryd.f46.ntmps = 32 := by kernel_rfl
theorem B67 : Tryd.f67.body.isSome = true := by kernel_rfl
theorem N67 : (Tryd.f67.name == "runtime.NumGoroutine") = false := by kernel_rfl
theorem B68 : Tryd.f68.body.isSome = true := by kernel_rfl
theorem N68 : (Tryd.f68.name == "runtime.NumGoroutine") = false := by kernel_rfl
theorem B69 : Tryd.f69.body.isSome = true := by kernel_rfl
theorem N69 : (Tryd.f69.name == "runtime.NumGoroutine") = false := by kernel_rfl
end Go.Proofs.YtplmfekhdaefaaaDoor
set_option linter.unusedSimpArgs false
set_option linter.unusedVariables false
namespace Go.Proofs.YtplmfekhdaefaaaDoor
open Go
theorem I48 : Sv.TI Tryd.prog 48 (.agg #[.slice none 0 0, .bool false]) 2 32 := by unfold Sv.TI; kernel_rfl
theorem T47 : Tryd.f47.ntmps = 14 := by kernel_rfl
theorem F105_1 (b o : Nat) (w : World) : (Instr.fieldAt 105 (.pointer (some ⟨b, o, none⟩)) 1).run Tryd.prog w = .ok (.pointer (some ⟨b, o + 3, none⟩)) w := by kernel_rfl
theorem Bd48_0 (x0 : Option Addr) (x0n x0c : Nat) (w : World) : (Instr.build 48 [(0, .slice x0 x0n x0c)].toArray).run Tryd.prog w = .ok (.agg [.slice x0 x0n x0c, .bool false].toArray) w := by kernel_rfl
theorem T48 : Tryd.f48.ntmps = 62 := by kernel_rfl
theorem F105_0 (b o : Nat) (w : World) : (Instr.fieldAt 105 (.pointer (some ⟨b, o, none⟩)) 0).run Tryd.prog w = .ok (.pointer (some ⟨b, o, none⟩)) w := by kernel_rfl
theorem B47 : Tryd.f47.body.isSome = true := by kernel_rfl
theorem N47 : (Tryd.f47.name == "runtime.NumGoroutine") = false := by kernel_rfl
theorem F105_2 (b o : Nat) (w : World) : (Instr.fieldAt 105 (.pointer (some ⟨b, o, none⟩)) 2).run Tryd.prog w = .ok (.pointer (some ⟨b, o + 4, none⟩)) w := by kernel_rfl
theorem F105_3 (b o : Nat) (w : World) : (Instr.fieldAt 105 (.pointer (some ⟨b, o, none⟩)) 3).run Tryd.prog w = .ok (.pointer (some ⟨b, o + 5, none⟩)) w := by kernel_rfl
theorem Bd71_1 (x1 : Int) (w : World) : (Instr.build 71 [(1, .int .u64 x1)].toArray).run Tryd.prog w = .ok (.agg [.bool false, .int .u64 x1, .int .u64 0].toArray) w := by kernel_rfl
theorem Bd48_0_1 (x0 : Option Addr) (x0n x0c : Nat) (x1 : Bool) (w : World) : (Instr.build 48 [(0, .slice x0 x0n x0c), (1, .bool x1)].toArray).run Tryd.prog w = .ok (.agg [.slice x0 x0n x0c, .bool x1].toArray) w := by kernel_rfl
theorem Bd48_  (w : World) : (Instr.build 48 [].toArray).run Tryd.prog w = .ok (.agg [.slice none 0 0, .bool false].toArray) w := by kernel_rfl
end Go.Proofs.YtplmfekhdaefaaaDoor
set_option linter.unusedSimpArgs false
set_option linter.unusedVariables false
namespace Go.Proofs.YtplmfekhdaefaaaDoor
open Go
theorem T22 : Tryd.f22.ntmps = 14 := by kernel_rfl
theorem B48 : Tryd.f48.body.isSome = true := by kernel_rfl
theorem N48 : (Tryd.f48.name == "runtime.NumGoroutine") = false := by kernel_rfl
theorem T20 : Tryd.f20.ntmps = 53 := by kernel_rfl
theorem T26 : Tryd.f26.ntmps = 7 := by kernel_rfl
theorem T27 : Tryd.f27.ntmps = 7 := by kernel_rfl
theorem T18 : Tryd.f18.ntmps = 14 := by kernel_rfl
theorem B46 : Tryd.f46.body.isSome = true := by kernel_rfl
theorem N46 : (Tryd.f46.name == "runtime.NumGoroutine") = false := by kernel_rfl
theorem Bd105_0 (x00 x01 x02 : Value) (w : World) : (Instr.build 105 [(0, .agg #[x00, x01, x02])].toArray).run Tryd.prog w = .ok (.agg [x00, x01, x02, .int .i64 0, .bool false, .int .i64 0].toArray) w := by kernel_rfl
end Go.Proofs.YtplmfekhdaefaaaDoor
set_option linter.unusedSimpArgs false
set_option linter.unusedVariables false
namespace Go.Proofs.YtplmfekhdaefaaaDoor
open Go
theorem T45 : Tryd.f45.ntmps = 26 := by kernel_rfl
theorem EG71neq (x y : Operand) (xs ys : Array Value) (w : World) : (eqGuard .neq 71 x y (.agg xs) (.agg ys)).run Tryd.prog w = .ok () w := by kernel_rfl
theorem SI71 : Tryd.prog.stoodInHeld 71 = false := by kernel_rfl
theorem SEQ71 (d : Nat) (x0 : Bool) (y0 : Bool) (x1 : Int) (y1 : Int) (x2 : Int) (y2 : Int) (w : World) : (Op.equalIn (d + 2) 71 (.agg #[.bool x0, .int .u64 x1, .int .u64 x2]) (.agg #[.bool y0, .int .u64 y1, .int .u64 y2])).run Tryd.prog w = .ok (decide (x0 = y0 ∧ x1 = y1 ∧ x2 = y2)) w := by
  have p0 : ∀ w, (part 4 #[.bool x0, .int .u64 x1, .int .u64 x2] 0).run Tryd.prog w = .ok (.bool x0) w := fun w => by kernel_rfl
  have q0 : ∀ w, (part 4 #[.bool y0, .int .u64 y1, .int .u64 y2] 0).run Tryd.prog w = .ok (.bool y0) w := fun w => by kernel_rfl
  have p1 : ∀ w, (part 51 #[.bool x0, .int .u64 x1, .int .u64 x2] 1).run Tryd.prog w = .ok (.int .u64 x1) w := fun w => by kernel_rfl
  have q1 : ∀ w, (part 51 #[.bool y0, .int .u64 y1, .int .u64 y2] 1).run Tryd.prog w = .ok (.int .u64 y1) w := fun w => by kernel_rfl
  have p2 : ∀ w, (part 51 #[.bool x0, .int .u64 x1, .int .u64 x2] 2).run Tryd.prog w = .ok (.int .u64 x2) w := fun w => by kernel_rfl
  have q2 : ∀ w, (part 51 #[.bool y0, .int .u64 y1, .int .u64 y2] 2).run Tryd.prog w = .ok (.int .u64 y2) w := fun w => by kernel_rfl
  rw [Op.equalIn]
  simp only [Sem.run_bind, run_underlying Tryd.underlying71, Result.andThen_ok]
  simp [SI71, p0, q0, p1, q1, p2, q2, Sv.equalIn_bool d Tryd.underlying4, Sv.equalIn_int d Tryd.underlying51]
  (repeat' split) <;> simp_all
theorem EQ71neq (x0 : Bool) (x1 : Int) (x2 : Int) (y0 : Bool) (y1 : Int) (y2 : Int) (w : World) : (binOp .neq 71 (.agg #[.bool x0, .int .u64 x1, .int .u64 x2]) (.agg #[.bool y0, .int .u64 y1, .int .u64 y2])).run Tryd.prog w = .ok (.bool (decide (¬ (x0 = y0 ∧ x1 = y1 ∧ x2 = y2)))) w :=
  Sv.run_neq_of (p := x0 = y0 ∧ x1 = y1 ∧ x2 = y2) (fun _ _ => by simp) (fun _ => by simp) (fun _ _ => by simp) (fun _ _ _ => by simp) (fun w => SEQ71 9998 x0 y0 x1 y1 x2 y2 w) w
theorem T42 : Tryd.f42.ntmps = 26 := by kernel_rfl
theorem T33 : Tryd.f33.ntmps = 26 := by kernel_rfl
theorem T25 : Tryd.f25.ntmps = 17 := by kernel_rfl
theorem F48_0 (b o : Nat) (w : World) : (Instr.fieldAt 48 (.pointer (some ⟨b, o, none⟩)) 0).run Tryd.prog w = .ok (.pointer (some ⟨b, o, none⟩)) w := by kernel_rfl
theorem B45 : Tryd.f45.body.isSome = true := by kernel_rfl
theorem N45 : (Tryd.f45.name == "runtime.NumGoroutine") = false := by kernel_rfl
theorem F48_1 (b o : Nat) (w : World) : (Instr.fieldAt 48 (.pointer (some ⟨b, o, none⟩)) 1).run Tryd.prog w = .ok (.pointer (some ⟨b, o + 1, none⟩)) w := by kernel_rfl
end Go.Proofs.YtplmfekhdaefaaaDoor
set_option linter.unusedSimpArgs false
set_option linter.unusedVariables false
namespace Go.Proofs.YtplmfekhdaefaaaDoor
open Go
theorem T10 : Tryd.f10.ntmps = 95 := by kernel_rfl
theorem B11 : Tryd.f11.body.isSome = true := by kernel_rfl
theorem N11 : (Tryd.f11.name == "runtime.NumGoroutine") = false := by kernel_rfl
theorem B18 : Tryd.f18.body.isSome = true := by kernel_rfl
theorem N18 : (Tryd.f18.name == "runtime.NumGoroutine") = false := by kernel_rfl
theorem B22 : Tryd.f22.body.isSome = true := by kernel_rfl
theorem N22 : (Tryd.f22.name == "runtime.NumGoroutine") = false := by kernel_rfl
theorem B27 : Tryd.f27.body.isSome = true := by kernel_rfl
theorem N27 : (Tryd.f27.name == "runtime.NumGoroutine") = false := by kernel_rfl
theorem B20 : Tryd.f20.body.isSome = true := by kernel_rfl
theorem N20 : (Tryd.f20.name == "runtime.NumGoroutine") = false := by kernel_rfl
theorem Bd71_0_1_2 (x0 : Bool) (x1 : Int) (x2 : Int) (w : World) : (Instr.build 71 [(0, .bool x0), (1, .int .u64 x1), (2, .int .u64 x2)].toArray).run Tryd.prog w = .ok (.agg [.bool x0, .int .u64 x1, .int .u64 x2].toArray) w := by kernel_rfl
theorem B25 : Tryd.f25.body.isSome = true := by kernel_rfl
theorem N25 : (Tryd.f25.name == "runtime.NumGoroutine") = false := by kernel_rfl
theorem B26 : Tryd.f26.body.isSome = true := by kernel_rfl
theorem N26 : (Tryd.f26.name == "runtime.NumGoroutine") = false := by kernel_rfl
end Go.Proofs.YtplmfekhdaefaaaDoor
set_option linter.unusedSimpArgs false
set_option linter.unusedVariables false
namespace Go.Proofs.YtplmfekhdaefaaaDoor
open Go
theorem T14 : Tryd.f14.ntmps = 11 := by kernel_rfl
theorem T23 : Tryd.f23.ntmps = 7 := by kernel_rfl
theorem Ba102_6 (x0 : ByteArray) (x1 : ByteArray) (x2 : ByteArray) (x3 : ByteArray) (x4 : ByteArray) (x5 : ByteArray) (w : World) : (Instr.build 102 [(0, .string x0), (1, .string x1), (2, .string x2), (3, .string x3), (4, .string x4), (5, .string x5)].toArray).run Tryd.prog w = .ok (.agg [.string x0, .string x1, .string x2, .string x3, .string x4, .string x5].toArray) w := by kernel_rfl
theorem B14 : Tryd.f14.body.isSome = true := by kernel_rfl
theorem N14 : (Tryd.f14.name == "runtime.NumGoroutine") = false := by kernel_rfl
theorem T16 : Tryd.f16.ntmps = 60 := by kernel_rfl
end Go.Proofs.YtplmfekhdaefaaaDoor
set_option linter.unusedSimpArgs false
set_option linter.unusedVariables false
namespace Go.Proofs.YtplmfekhdaefaaaDoor
open Go
theorem T17 : Tryd.f17.ntmps = 130 := by kernel_rfl
theorem I102 : Sv.TI Tryd.prog 102 (.agg #[.string (Sv.bs []), .string (Sv.bs []), .string (Sv.bs []), .string (Sv.bs []), .string (Sv.bs []), .string (Sv.bs [])]) 6 96 := by unfold Sv.TI; kernel_rfl
theorem Ba103_4 (x0 : ByteArray) (x1 : ByteArray) (x2 : ByteArray) (x3 : ByteArray) (w : World) : (Instr.build 103 [(0, .string x0), (1, .string x1), (2, .string x2), (3, .string x3)].toArray).run Tryd.prog w = .ok (.agg [.string x0, .string x1, .string x2, .string x3].toArray) w := by kernel_rfl
theorem I103 : Sv.TI Tryd.prog 103 (.agg #[.string (Sv.bs []), .string (Sv.bs []), .string (Sv.bs []), .string (Sv.bs [])]) 4 64 := by unfold Sv.TI; kernel_rfl
theorem Bd26_0 (x0 : ByteArray) (w : World) : (Instr.build 26 [(0, .string x0)].toArray).run Tryd.prog w = .ok (.agg [.string x0, .slice none 0 0, .slice none 0 0].toArray) w := by kernel_rfl
theorem Bd61_0_1_4 (x0 : Int) (x1 : ByteArray) (x4 : Int) (w : World) : (Instr.build 61 [(0, .int .i64 x0), (1, .string x1), (4, .int .i64 x4)].toArray).run Tryd.prog w = .ok (.agg [.int .i64 x0, .string x1, .bool false, .int .u64 0, .int .u64 0, .int .u64 0, .slice none 0 0, .int .i64 x4].toArray) w := by kernel_rfl
theorem Bd59_0_1_2_3 (x0 : Bool) (x1 : Int) (x2 : Int) (x3 : Int) (w : World) : (Instr.build 59 [(0, .bool x0), (1, .int .u64 x1), (2, .int .u64 x2), (3, .int .u64 x3)].toArray).run Tryd.prog w = .ok (.agg [.bool x0, .int .u64 x1, .int .u64 x2, .int .u64 x3].toArray) w := by kernel_rfl
end Go.Proofs.YtplmfekhdaefaaaDoor
