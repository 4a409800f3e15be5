/-
  Texts joined: Tab1, Tab2, Tab3, Tab4, Tab5, Tab6, Tab7, Tab8, Tab9, Tab10, Tab11, Tab12, Tab13, Tab14, Tab15, Tab16, Tab17, Tab18, Tab19, Tab20, Tab21, Tab22, Tab23, Tab24, Tab25, Tab26, Tab27, Tab28, Tab29, Tab30, Tab31, Tab32, Tab33.
-/
import Derived.Test.YtplmfekhdaefaaaGreatDoorProg
import Derived.Test.YtplmfekhdaefaaaGreatDoorSvC
set_option linter.unusedSimpArgs false
set_option linter.unusedVariables false
namespace Go.Proofs.YtplmfekhdaefaaaGreatDoor
open Go
theorem T73 : Tryz.f73.ntmps = 9 := by kernel_rfl
theorem T51 : Tryz.f51.ntmps = 25 := by kernel_rfl
theorem B73 : Tryz.f73.body.isSome = true := by kernel_rfl
theorem N73 : (Tryz.f73.name == "runtime.NumGoroutine") = false := by kernel_rfl
theorem T58 : Tryz.f58.ntmps = 29 := by kernel_rfl
theorem T56 : Tryz.f56.ntmps = 27 := by kernel_rfl
theorem B51 : Tryz.f51.body.isSome = true := by kernel_rfl
theorem N51 : (Tryz.f51.name == "runtime.NumGoroutine") = false := by kernel_rfl
end Go.Proofs.YtplmfekhdaefaaaGreatDoor
set_option linter.unusedSimpArgs false
set_option linter.unusedVariables false
namespace Go.Proofs.YtplmfekhdaefaaaGreatDoor
open Go
theorem T45 : Tryz.f45.ntmps = 55 := by kernel_rfl
theorem T33 : Tryz.f33.ntmps = 25 := by kernel_rfl
theorem I9 : Sv.TI Tryz.prog 9 (.string (Sv.bs [])) 1 16 := by unfold Sv.TI; kernel_rfl
theorem T46 : Tryz.f46.ntmps = 83 := by kernel_rfl
theorem F48_0 (b o : Nat) (w : World) : (Instr.fieldAt 48 (.pointer (some ⟨b, o, none⟩)) 0).run Tryz.prog w = .ok (.pointer (some ⟨b, o, none⟩)) w := by kernel_rfl
theorem F48_4 (b o : Nat) (w : World) : (Instr.fieldAt 48 (.pointer (some ⟨b, o, none⟩)) 4).run Tryz.prog w = .ok (.pointer (some ⟨b, o + 7, none⟩)) w := by kernel_rfl
theorem F48_1 (b o : Nat) (w : World) : (Instr.fieldAt 48 (.pointer (some ⟨b, o, none⟩)) 1).run Tryz.prog w = .ok (.pointer (some ⟨b, o + 1, none⟩)) w := by kernel_rfl
theorem B45 : Tryz.f45.body.isSome = true := by kernel_rfl
theorem N45 : (Tryz.f45.name == "runtime.NumGoroutine") = false := by kernel_rfl
theorem F48_3 (b o : Nat) (w : World) : (Instr.fieldAt 48 (.pointer (some ⟨b, o, none⟩)) 3).run Tryz.prog w = .ok (.pointer (some ⟨b, o + 6, none⟩)) w := by kernel_rfl
theorem F48_2 (b o : Nat) (w : World) : (Instr.fieldAt 48 (.pointer (some ⟨b, o, none⟩)) 2).run Tryz.prog w = .ok (.pointer (some ⟨b, o + 2, none⟩)) w := by kernel_rfl
theorem F45_0 (b o : Nat) (w : World) : (Instr.fieldAt 45 (.pointer (some ⟨b, o, none⟩)) 0).run Tryz.prog w = .ok (.pointer (some ⟨b, o, none⟩)) w := by kernel_rfl
theorem F45_1 (b o : Nat) (w : World) : (Instr.fieldAt 45 (.pointer (some ⟨b, o, none⟩)) 1).run Tryz.prog w = .ok (.pointer (some ⟨b, o + 1, none⟩)) w := by kernel_rfl
theorem F45_2 (b o : Nat) (w : World) : (Instr.fieldAt 45 (.pointer (some ⟨b, o, none⟩)) 2).run Tryz.prog w = .ok (.pointer (some ⟨b, o + 2, none⟩)) w := by kernel_rfl
theorem F45_3 (b o : Nat) (w : World) : (Instr.fieldAt 45 (.pointer (some ⟨b, o, none⟩)) 3).run Tryz.prog w = .ok (.pointer (some ⟨b, o + 3, none⟩)) w := by kernel_rfl
theorem I59 : Sv.TI Tryz.prog 59 (.agg #[.bool false, .int .u64 0, .int .u64 0]) 3 24 := by unfold Sv.TI; kernel_rfl
theorem F59_0 (b o : Nat) (w : World) : (Instr.fieldAt 59 (.pointer (some ⟨b, o, none⟩)) 0).run Tryz.prog w = .ok (.pointer (some ⟨b, o, none⟩)) w := by kernel_rfl
theorem F59_2 (b o : Nat) (w : World) : (Instr.fieldAt 59 (.pointer (some ⟨b, o, none⟩)) 2).run Tryz.prog w = .ok (.pointer (some ⟨b, o + 2, none⟩)) w := by kernel_rfl
end Go.Proofs.YtplmfekhdaefaaaGreatDoor
set_option linter.unusedSimpArgs false
set_option linter.unusedVariables false
namespace Go.Proofs.YtplmfekhdaefaaaGreatDoor
open Go
theorem T23 : Tryz.f23.ntmps = 81 := by kernel_rfl
theorem F25_0 (b o : Nat) (w : World) : (Instr.fieldAt 25 (.pointer (some ⟨b, o, none⟩)) 0).run Tryz.prog w = .ok (.pointer (some ⟨b, o, none⟩)) w := by kernel_rfl
theorem F25_1 (b o : Nat) (w : World) : (Instr.fieldAt 25 (.pointer (some ⟨b, o, none⟩)) 1).run Tryz.prog w = .ok (.pointer (some ⟨b, o + 1, none⟩)) w := by kernel_rfl
theorem F25_2 (b o : Nat) (w : World) : (Instr.fieldAt 25 (.pointer (some ⟨b, o, none⟩)) 2).run Tryz.prog w = .ok (.pointer (some ⟨b, o + 2, none⟩)) w := by kernel_rfl
theorem I48 : Sv.TI Tryz.prog 48 (.agg #[.int .i64 0, .string (Sv.bs []), .bool false, .int .u64 0, .int .u64 0, .int .u64 0, .slice none 0 0, .int .i64 0]) 8 88 := by unfold Sv.TI; kernel_rfl
theorem B46 : Tryz.f46.body.isSome = true := by kernel_rfl
theorem N46 : (Tryz.f46.name == "runtime.NumGoroutine") = false := by kernel_rfl
theorem B33 : Tryz.f33.body.isSome = true := by kernel_rfl
theorem N33 : (Tryz.f33.name == "runtime.NumGoroutine") = false := by kernel_rfl
theorem T79 : Tryz.f79.ntmps = 11 := by kernel_rfl
theorem T89 : Tryz.f89.ntmps = 19 := by kernel_rfl
theorem B79 : Tryz.f79.body.isSome = true := by kernel_rfl
theorem N79 : (Tryz.f79.name == "runtime.NumGoroutine") = false := by kernel_rfl
theorem T78 : Tryz.f78.ntmps = 9 := by kernel_rfl
theorem B89 : Tryz.f89.body.isSome = true := by kernel_rfl
theorem N89 : (Tryz.f89.name == "runtime.NumGoroutine") = false := by kernel_rfl
theorem T57 : Tryz.f57.ntmps = 51 := by kernel_rfl
theorem B56 : Tryz.f56.body.isSome = true := by kernel_rfl
theorem N56 : (Tryz.f56.name == "runtime.NumGoroutine") = false := by kernel_rfl
theorem I45 : Sv.TI Tryz.prog 45 (.agg #[.bool false, .int .u64 0, .int .u64 0, .int .u64 0]) 4 32 := by unfold Sv.TI; kernel_rfl
theorem Bd45_  (w : World) : (Instr.build 45 [].toArray).run Tryz.prog w = .ok (.agg [.bool false, .int .u64 0, .int .u64 0, .int .u64 0].toArray) w := by kernel_rfl
theorem EG45neq (x y : Operand) (xs ys : Array Value) (w : World) : (eqGuard .neq 45 x y (.agg xs) (.agg ys)).run Tryz.prog w = .ok () w := by kernel_rfl
theorem SI45 : Tryz.prog.stoodInHeld 45 = false := by kernel_rfl
theorem SEQ45 (d : Nat) (x0 : Bool) (y0 : Bool) (x1 : Int) (y1 : Int) (x2 : Int) (y2 : Int) (x3 : Int) (y3 : Int) (w : World) : (Op.equalIn (d + 2) 45 (.agg #[.bool x0, .int .u64 x1, .int .u64 x2, .int .u64 x3]) (.agg #[.bool y0, .int .u64 y1, .int .u64 y2, .int .u64 y3])).run Tryz.prog w = .ok (decide (x0 = y0 ∧ x1 = y1 ∧ x2 = y2 ∧ x3 = y3)) w := by
  have p0 : ∀ w, (part 4 #[.bool x0, .int .u64 x1, .int .u64 x2, .int .u64 x3] 0).run Tryz.prog w = .ok (.bool x0) w := fun w => by kernel_rfl
  have q0 : ∀ w, (part 4 #[.bool y0, .int .u64 y1, .int .u64 y2, .int .u64 y3] 0).run Tryz.prog w = .ok (.bool y0) w := fun w => by kernel_rfl
  have p1 : ∀ w, (part 43 #[.bool x0, .int .u64 x1, .int .u64 x2, .int .u64 x3] 1).run Tryz.prog w = .ok (.int .u64 x1) w := fun w => by kernel_rfl
  have q1 : ∀ w, (part 43 #[.bool y0, .int .u64 y1, .int .u64 y2, .int .u64 y3] 1).run Tryz.prog w = .ok (.int .u64 y1) w := fun w => by kernel_rfl
  have p2 : ∀ w, (part 43 #[.bool x0, .int .u64 x1, .int .u64 x2, .int .u64 x3] 2).run Tryz.prog w = .ok (.int .u64 x2) w := fun w => by kernel_rfl
  have q2 : ∀ w, (part 43 #[.bool y0, .int .u64 y1, .int .u64 y2, .int .u64 y3] 2).run Tryz.prog w = .ok (.int .u64 y2) w := fun w => by kernel_rfl
  have p3 : ∀ w, (part 43 #[.bool x0, .int .u64 x1, .int .u64 x2, .int .u64 x3] 3).run Tryz.prog w = .ok (.int .u64 x3) w := fun w => by kernel_rfl
  have q3 : ∀ w, (part 43 #[.bool y0, .int .u64 y1, .int .u64 y2, .int .u64 y3] 3).run Tryz.prog w = .ok (.int .u64 y3) w := fun w => by kernel_rfl
  rw [Op.equalIn]
  simp only [Sem.run_bind, run_underlying Tryz.underlying45, Result.andThen_ok]
  simp [SI45, p0, q0, p1, q1, p2, q2, p3, q3, Sv.equalIn_bool d Tryz.underlying4, Sv.equalIn_int d Tryz.underlying43]
  (repeat' split) <;> simp_all
theorem EQ45neq (x0 : Bool) (x1 : Int) (x2 : Int) (x3 : Int) (y0 : Bool) (y1 : Int) (y2 : Int) (y3 : Int) (w : World) : (binOp .neq 45 (.agg #[.bool x0, .int .u64 x1, .int .u64 x2, .int .u64 x3]) (.agg #[.bool y0, .int .u64 y1, .int .u64 y2, .int .u64 y3])).run Tryz.prog w = .ok (.bool (decide (¬ (x0 = y0 ∧ x1 = y1 ∧ x2 = y2 ∧ x3 = y3)))) w :=
  Sv.run_neq_of (p := x0 = y0 ∧ x1 = y1 ∧ x2 = y2 ∧ x3 = y3) (fun _ _ => by simp) (fun _ => by simp) (fun _ _ => by simp) (fun _ _ _ => by simp) (fun w => SEQ45 9998 x0 y0 x1 y1 x2 y2 x3 y3 w) w
theorem B78 : Tryz.f78.body.isSome = true := by kernel_rfl
theorem N78 : (Tryz.f78.name == "runtime.NumGoroutine") = false := by kernel_rfl
theorem I4 : Sv.TI Tryz.prog 4 (.bool false) 1 1 := by unfold Sv.TI; kernel_rfl
theorem T28 : Tryz.f28.ntmps = 21 := by kernel_rfl
theorem T29 : Tryz.f29.ntmps = 66 := by kernel_rfl
theorem B57 : Tryz.f57.body.isSome = true := by kernel_rfl
theorem N57 : (Tryz.f57.name == "runtime.NumGoroutine") = false := by kernel_rfl
theorem B28 : Tryz.f28.body.isSome = true := by kernel_rfl
theorem N28 : (Tryz.f28.name == "runtime.NumGoroutine") = false := by kernel_rfl
end Go.Proofs.YtplmfekhdaefaaaGreatDoor
set_option linter.unusedSimpArgs false
set_option linter.unusedVariables false
namespace Go.Proofs.YtplmfekhdaefaaaGreatDoor
open Go
theorem X99a : (Tryz.f107.name == "runtime.NumGoroutine") = false := by kernel_rfl
theorem X99b : Tryz.f107.body.isNone = true := by kernel_rfl
theorem X99c : Extern.findNext Tryz.f107 = none := by kernel_rfl
theorem X99d : Extern.find Tryz.f107 = some Extern.BytealgIndexByte.indexByte := by kernel_rfl
theorem T92 : Tryz.f92.ntmps = 8 := by kernel_rfl
theorem T86 : Tryz.f86.ntmps = 143 := by kernel_rfl
theorem B92 : Tryz.f92.body.isSome = true := by kernel_rfl
theorem N92 : (Tryz.f92.name == "runtime.NumGoroutine") = false := by kernel_rfl
theorem T70 : Tryz.f70.ntmps = 8 := by kernel_rfl
theorem B86 : Tryz.f86.body.isSome = true := by kernel_rfl
theorem N86 : (Tryz.f86.name == "runtime.NumGoroutine") = false := by kernel_rfl
theorem T71 : Tryz.f71.ntmps = 23 := by kernel_rfl
theorem T49 : Tryz.f49.ntmps = 13 := by kernel_rfl
theorem B71 : Tryz.f71.body.isSome = true := by kernel_rfl
theorem N71 : (Tryz.f71.name == "runtime.NumGoroutine") = false := by kernel_rfl
theorem T72 : Tryz.f72.ntmps = 18 := by kernel_rfl
theorem T50 : Tryz.f50.ntmps = 8 := by kernel_rfl
theorem B72 : Tryz.f72.body.isSome = true := by kernel_rfl
theorem N72 : (Tryz.f72.name == "runtime.NumGoroutine") = false := by kernel_rfl
end Go.Proofs.YtplmfekhdaefaaaGreatDoor
set_option linter.unusedSimpArgs false
set_option linter.unusedVariables false
namespace Go.Proofs.YtplmfekhdaefaaaGreatDoor
open Go
theorem I114 : Sv.TI Tryz.prog 114 (.agg #[.int .i64 0, .string (Sv.bs []), .int .u64 0]) 3 32 := by unfold Sv.TI; kernel_rfl
theorem T52 : Tryz.f52.ntmps = 46 := by kernel_rfl
theorem Bd114_0_1 (x0 : Int) (x1 : ByteArray) (w : World) : (Instr.build 114 [(0, .int .i64 x0), (1, .string x1)].toArray).run Tryz.prog w = .ok (.agg [.int .i64 x0, .string x1, .int .u64 0].toArray) w := by kernel_rfl
theorem Bd114_  (w : World) : (Instr.build 114 [].toArray).run Tryz.prog w = .ok (.agg [.int .i64 0, .string (Sv.bs []), .int .u64 0].toArray) w := by kernel_rfl
theorem B74 : Tryz.f74.body.isSome = true := by kernel_rfl
theorem N74 : (Tryz.f74.name == "runtime.NumGoroutine") = false := by kernel_rfl
theorem Bd114_0_2 (x0 : Int) (x2 : Int) (w : World) : (Instr.build 114 [(0, .int .i64 x0), (2, .int .u64 x2)].toArray).run Tryz.prog w = .ok (.agg [.int .i64 x0, .string (Sv.bs []), .int .u64 x2].toArray) w := by kernel_rfl
theorem T26 : Tryz.f26.ntmps = 98 := by kernel_rfl
theorem B49 : Tryz.f49.body.isSome = true := by kernel_rfl
theorem N49 : (Tryz.f49.name == "runtime.NumGoroutine") = false := by kernel_rfl
theorem Bs71_1_0 (x00 x01 x02 : Value) (w : World) : (Instr.buildSlice 71 1 [(0, .agg #[x00, x01, x02])].toArray).run Tryz.prog w = .ok (.slice (some ⟨w.heap.size, 0, none⟩) 1 1) (w.alloc (.cells [x00, x01, x02].toArray 114)) := by kernel_rfl
theorem B50 : Tryz.f50.body.isSome = true := by kernel_rfl
theorem N50 : (Tryz.f50.name == "runtime.NumGoroutine") = false := by kernel_rfl
theorem B52 : Tryz.f52.body.isSome = true := by kernel_rfl
theorem N52 : (Tryz.f52.name == "runtime.NumGoroutine") = false := by kernel_rfl
end Go.Proofs.YtplmfekhdaefaaaGreatDoor
set_option linter.unusedSimpArgs false
set_option linter.unusedVariables false
namespace Go.Proofs.YtplmfekhdaefaaaGreatDoor
open Go
theorem T54 : Tryz.f54.ntmps = 13 := by kernel_rfl
theorem F121_1 (b o : Nat) (w : World) : (Instr.fieldAt 121 (.pointer (some ⟨b, o, none⟩)) 1).run Tryz.prog w = .ok (.pointer (some ⟨b, o + 1, none⟩)) w := by kernel_rfl
theorem F121_0 (b o : Nat) (w : World) : (Instr.fieldAt 121 (.pointer (some ⟨b, o, none⟩)) 0).run Tryz.prog w = .ok (.pointer (some ⟨b, o, none⟩)) w := by kernel_rfl
theorem T53 : Tryz.f53.ntmps = 39 := by kernel_rfl
theorem B54 : Tryz.f54.body.isSome = true := by kernel_rfl
theorem N54 : (Tryz.f54.name == "runtime.NumGoroutine") = false := by kernel_rfl
theorem F114_0 (b o : Nat) (w : World) : (Instr.fieldAt 114 (.pointer (some ⟨b, o, none⟩)) 0).run Tryz.prog w = .ok (.pointer (some ⟨b, o, none⟩)) w := by kernel_rfl
theorem I3 : Sv.TI Tryz.prog 3 (.int .i64 0) 1 8 := by unfold Sv.TI; kernel_rfl
theorem F114_1 (b o : Nat) (w : World) : (Instr.fieldAt 114 (.pointer (some ⟨b, o, none⟩)) 1).run Tryz.prog w = .ok (.pointer (some ⟨b, o + 1, none⟩)) w := by kernel_rfl
theorem T75 : Tryz.f75.ntmps = 46 := by kernel_rfl
theorem I43 : Sv.TI Tryz.prog 43 (.int .u64 0) 1 8 := by unfold Sv.TI; kernel_rfl
theorem T76 : Tryz.f76.ntmps = 41 := by kernel_rfl
theorem F114_2 (b o : Nat) (w : World) : (Instr.fieldAt 114 (.pointer (some ⟨b, o, none⟩)) 2).run Tryz.prog w = .ok (.pointer (some ⟨b, o + 2, none⟩)) w := by kernel_rfl
end Go.Proofs.YtplmfekhdaefaaaGreatDoor
set_option linter.unusedSimpArgs false
set_option linter.unusedVariables false
namespace Go.Proofs.YtplmfekhdaefaaaGreatDoor
open Go
theorem T77 : Tryz.f77.ntmps = 29 := by kernel_rfl
theorem B75 : Tryz.f75.body.isSome = true := by kernel_rfl
theorem N75 : (Tryz.f75.name == "runtime.NumGoroutine") = false := by kernel_rfl
theorem F59_1 (b o : Nat) (w : World) : (Instr.fieldAt 59 (.pointer (some ⟨b, o, none⟩)) 1).run Tryz.prog w = .ok (.pointer (some ⟨b, o + 1, none⟩)) w := by kernel_rfl
theorem B76 : Tryz.f76.body.isSome = true := by kernel_rfl
theorem N76 : (Tryz.f76.name == "runtime.NumGoroutine") = false := by kernel_rfl
theorem T55 : Tryz.f55.ntmps = 89 := by kernel_rfl
theorem B53 : Tryz.f53.body.isSome = true := by kernel_rfl
theorem N53 : (Tryz.f53.name == "runtime.NumGoroutine") = false := by kernel_rfl
theorem B77 : Tryz.f77.body.isSome = true := by kernel_rfl
theorem N77 : (Tryz.f77.name == "runtime.NumGoroutine") = false := by kernel_rfl
theorem Bs46_1_0 (x00 x01 x02 : Value) (w : World) : (Instr.buildSlice 46 1 [(0, .agg #[x00, x01, x02])].toArray).run Tryz.prog w = .ok (.slice (some ⟨w.heap.size, 0, none⟩) 1 1) (w.alloc (.cells [x00, x01, x02].toArray 59)) := by kernel_rfl
theorem I46 : Sv.TI Tryz.prog 46 (.slice none 0 0) 1 24 := by unfold Sv.TI; kernel_rfl
end Go.Proofs.YtplmfekhdaefaaaGreatDoor
set_option linter.unusedSimpArgs false
set_option linter.unusedVariables false
namespace Go.Proofs.YtplmfekhdaefaaaGreatDoor
open Go
theorem T27 : Tryz.f27.ntmps = 120 := by kernel_rfl
theorem Bd121_0 (x0 : Option Addr) (x0n x0c : Nat) (w : World) : (Instr.build 121 [(0, .slice x0 x0n x0c)].toArray).run Tryz.prog w = .ok (.agg [.slice x0 x0n x0c, .int .i64 0].toArray) w := by kernel_rfl
theorem I121 : Sv.TI Tryz.prog 121 (.agg #[.slice none 0 0, .int .i64 0]) 2 32 := by unfold Sv.TI; kernel_rfl
theorem F67_1 (b o : Nat) (w : World) : (Instr.fieldAt 67 (.pointer (some ⟨b, o, none⟩)) 1).run Tryz.prog w = .ok (.pointer (some ⟨b, o + 3, none⟩)) w := by kernel_rfl
theorem F67_0 (b o : Nat) (w : World) : (Instr.fieldAt 67 (.pointer (some ⟨b, o, none⟩)) 0).run Tryz.prog w = .ok (.pointer (some ⟨b, o, none⟩)) w := by kernel_rfl
theorem Bs22_1_0 (x0 : ByteArray) (w : World) : (Instr.buildSlice 22 1 [(0, .string x0)].toArray).run Tryz.prog w = .ok (.slice (some ⟨w.heap.size, 0, none⟩) 1 1) (w.alloc (.cells [.string x0].toArray 9)) := by kernel_rfl
theorem I22 : Sv.TI Tryz.prog 22 (.slice none 0 0) 1 24 := by unfold Sv.TI; kernel_rfl
theorem B55 : Tryz.f55.body.isSome = true := by kernel_rfl
theorem N55 : (Tryz.f55.name == "runtime.NumGoroutine") = false := by kernel_rfl
theorem Bs23_1_0 (x00 x01 x02 x03 x04 x05 x06 x07 : Value) (w : World) : (Instr.buildSlice 23 1 [(0, .agg #[x00, x01, x02, x03, x04, x05, x06, x07])].toArray).run Tryz.prog w = .ok (.slice (some ⟨w.heap.size, 0, none⟩) 1 1) (w.alloc (.cells [x00, x01, x02, x03, x04, x05, x06, x07].toArray 48)) := by kernel_rfl
theorem I23 : Sv.TI Tryz.prog 23 (.slice none 0 0) 1 24 := by unfold Sv.TI; kernel_rfl
theorem F67_2 (b o : Nat) (w : World) : (Instr.fieldAt 67 (.pointer (some ⟨b, o, none⟩)) 2).run Tryz.prog w = .ok (.pointer (some ⟨b, o + 4, none⟩)) w := by kernel_rfl
end Go.Proofs.YtplmfekhdaefaaaGreatDoor
set_option linter.unusedSimpArgs false
set_option linter.unusedVariables false
namespace Go.Proofs.YtplmfekhdaefaaaGreatDoor
open Go
theorem T68 : Tryz.f68.ntmps = 52 := by kernel_rfl
theorem B70 : Tryz.f70.body.isSome = true := by kernel_rfl
theorem N70 : (Tryz.f70.name == "runtime.NumGoroutine") = false := by kernel_rfl
end Go.Proofs.YtplmfekhdaefaaaGreatDoor
set_option linter.unusedSimpArgs false
set_option linter.unusedVariables false
namespace Go.Proofs.YtplmfekhdaefaaaGreatDoor
open Go
theorem T48 : Tryz.f48.ntmps = 8 := by kernel_rfl
theorem T25 : Tryz.f25.ntmps = 8 := by kernel_rfl
theorem B48 : Tryz.f48.body.isSome = true := by kernel_rfl
theorem N48 : (Tryz.f48.name == "runtime.NumGoroutine") = false := by kernel_rfl
theorem I25 : Sv.TI Tryz.prog 25 (.agg #[.string (Sv.bs []), .slice none 0 0, .slice none 0 0]) 3 64 := by unfold Sv.TI; kernel_rfl
theorem T12 : Tryz.f12.ntmps = 93 := by kernel_rfl
theorem I28 : Sv.TI Tryz.prog 28 (.int .i64 0) 1 8 := by unfold Sv.TI; kernel_rfl
theorem I67 : Sv.TI Tryz.prog 67 (.agg #[.string (Sv.bs []), .slice none 0 0, .slice none 0 0, .bool false, .slice none 0 0]) 5 96 := by unfold Sv.TI; kernel_rfl
theorem B25 : Tryz.f25.body.isSome = true := by kernel_rfl
theorem N25 : (Tryz.f25.name == "runtime.NumGoroutine") = false := by kernel_rfl
theorem B68 : Tryz.f68.body.isSome = true := by kernel_rfl
theorem N68 : (Tryz.f68.name == "runtime.NumGoroutine") = false := by kernel_rfl
theorem B26 : Tryz.f26.body.isSome = true := by kernel_rfl
theorem N26 : (Tryz.f26.name == "runtime.NumGoroutine") = false := by kernel_rfl
theorem B27 : Tryz.f27.body.isSome = true := by kernel_rfl
theorem N27 : (Tryz.f27.name == "runtime.NumGoroutine") = false := by kernel_rfl
theorem Bd25_  (w : World) : (Instr.build 25 [].toArray).run Tryz.prog w = .ok (.agg [.string (Sv.bs []), .slice none 0 0, .slice none 0 0].toArray) w := by kernel_rfl
theorem B29 : Tryz.f29.body.isSome = true := by kernel_rfl
theorem N29 : (Tryz.f29.name == "runtime.NumGoroutine") = false := by kernel_rfl
end Go.Proofs.YtplmfekhdaefaaaGreatDoor
set_option linter.unusedSimpArgs false
set_option linter.unusedVariables false
namespace Go.Proofs.YtplmfekhdaefaaaGreatDoor
open Go
theorem T65 : Tryz.f65.ntmps = 8 := by kernel_rfl
theorem Bs22_0_  (w : World) : (Instr.buildSlice 22 0 [].toArray).run Tryz.prog w = .ok (.slice (some ⟨w.heap.size, 0, none⟩) 0 0) (w.alloc (.cells [].toArray 9)) := by kernel_rfl
theorem T66 : Tryz.f66.ntmps = 8 := by kernel_rfl
theorem Bs23_0_  (w : World) : (Instr.buildSlice 23 0 [].toArray).run Tryz.prog w = .ok (.slice (some ⟨w.heap.size, 0, none⟩) 0 0) (w.alloc (.cells [].toArray 48)) := by kernel_rfl
theorem T67 : Tryz.f67.ntmps = 8 := by kernel_rfl
theorem Bs46_0_  (w : World) : (Instr.buildSlice 46 0 [].toArray).run Tryz.prog w = .ok (.slice (some ⟨w.heap.size, 0, none⟩) 0 0) (w.alloc (.cells [].toArray 59)) := by kernel_rfl
end Go.Proofs.YtplmfekhdaefaaaGreatDoor
set_option linter.unusedSimpArgs false
set_option linter.unusedVariables false
namespace Go.Proofs.YtplmfekhdaefaaaGreatDoor
open Go
theorem T42 : Tryz.f42.ntmps = 32 := by kernel_rfl
theorem B65 : Tryz.f65.body.isSome = true := by kernel_rfl
theorem N65 : (Tryz.f65.name == "runtime.NumGoroutine") = false := by kernel_rfl
theorem B66 : Tryz.f66.body.isSome = true := by kernel_rfl
theorem N66 : (Tryz.f66.name == "runtime.NumGoroutine") = false := by kernel_rfl
theorem B67 : Tryz.f67.body.isSome = true := by kernel_rfl
theorem N67 : (Tryz.f67.name == "runtime.NumGoroutine") = false := by kernel_rfl
end Go.Proofs.YtplmfekhdaefaaaGreatDoor
set_option linter.unusedSimpArgs false
set_option linter.unusedVariables false
namespace Go.Proofs.YtplmfekhdaefaaaGreatDoor
open Go
theorem I53 : Sv.TI Tryz.prog 53 (.agg #[.slice none 0 0, .bool false]) 2 32 := by unfold Sv.TI; kernel_rfl
theorem T44 : Tryz.f44.ntmps = 14 := by kernel_rfl
theorem F104_1 (b o : Nat) (w : World) : (Instr.fieldAt 104 (.pointer (some ⟨b, o, none⟩)) 1).run Tryz.prog w = .ok (.pointer (some ⟨b, o + 3, none⟩)) w := by kernel_rfl
theorem Bd53_0 (x0 : Option Addr) (x0n x0c : Nat) (w : World) : (Instr.build 53 [(0, .slice x0 x0n x0c)].toArray).run Tryz.prog w = .ok (.agg [.slice x0 x0n x0c, .bool false].toArray) w := by kernel_rfl
theorem T43 : Tryz.f43.ntmps = 62 := by kernel_rfl
theorem F104_0 (b o : Nat) (w : World) : (Instr.fieldAt 104 (.pointer (some ⟨b, o, none⟩)) 0).run Tryz.prog w = .ok (.pointer (some ⟨b, o, none⟩)) w := by kernel_rfl
theorem B44 : Tryz.f44.body.isSome = true := by kernel_rfl
theorem N44 : (Tryz.f44.name == "runtime.NumGoroutine") = false := by kernel_rfl
theorem F104_2 (b o : Nat) (w : World) : (Instr.fieldAt 104 (.pointer (some ⟨b, o, none⟩)) 2).run Tryz.prog w = .ok (.pointer (some ⟨b, o + 4, none⟩)) w := by kernel_rfl
theorem F104_3 (b o : Nat) (w : World) : (Instr.fieldAt 104 (.pointer (some ⟨b, o, none⟩)) 3).run Tryz.prog w = .ok (.pointer (some ⟨b, o + 5, none⟩)) w := by kernel_rfl
theorem Bd59_1 (x1 : Int) (w : World) : (Instr.build 59 [(1, .int .u64 x1)].toArray).run Tryz.prog w = .ok (.agg [.bool false, .int .u64 x1, .int .u64 0].toArray) w := by kernel_rfl
theorem Bd53_0_1 (x0 : Option Addr) (x0n x0c : Nat) (x1 : Bool) (w : World) : (Instr.build 53 [(0, .slice x0 x0n x0c), (1, .bool x1)].toArray).run Tryz.prog w = .ok (.agg [.slice x0 x0n x0c, .bool x1].toArray) w := by kernel_rfl
theorem Bd53_  (w : World) : (Instr.build 53 [].toArray).run Tryz.prog w = .ok (.agg [.slice none 0 0, .bool false].toArray) w := by kernel_rfl
end Go.Proofs.YtplmfekhdaefaaaGreatDoor
set_option linter.unusedSimpArgs false
set_option linter.unusedVariables false
namespace Go.Proofs.YtplmfekhdaefaaaGreatDoor
open Go
theorem T18 : Tryz.f18.ntmps = 14 := by kernel_rfl
theorem B43 : Tryz.f43.body.isSome = true := by kernel_rfl
theorem N43 : (Tryz.f43.name == "runtime.NumGoroutine") = false := by kernel_rfl
theorem T20 : Tryz.f20.ntmps = 53 := by kernel_rfl
theorem T22 : Tryz.f22.ntmps = 7 := by kernel_rfl
theorem T19 : Tryz.f19.ntmps = 7 := by kernel_rfl
theorem T17 : Tryz.f17.ntmps = 14 := by kernel_rfl
theorem B42 : Tryz.f42.body.isSome = true := by kernel_rfl
theorem N42 : (Tryz.f42.name == "runtime.NumGoroutine") = false := by kernel_rfl
theorem Bd104_0 (x00 x01 x02 : Value) (w : World) : (Instr.build 104 [(0, .agg #[x00, x01, x02])].toArray).run Tryz.prog w = .ok (.agg [x00, x01, x02, .int .i64 0, .bool false, .int .i64 0].toArray) w := by kernel_rfl
end Go.Proofs.YtplmfekhdaefaaaGreatDoor
set_option linter.unusedSimpArgs false
set_option linter.unusedVariables false
namespace Go.Proofs.YtplmfekhdaefaaaGreatDoor
open Go
theorem T37 : Tryz.f37.ntmps = 26 := by kernel_rfl
theorem EG59neq (x y : Operand) (xs ys : Array Value) (w : World) : (eqGuard .neq 59 x y (.agg xs) (.agg ys)).run Tryz.prog w = .ok () w := by kernel_rfl
theorem SI59 : Tryz.prog.stoodInHeld 59 = false := by kernel_rfl
theorem SEQ59 (d : Nat) (x0 : Bool) (y0 : Bool) (x1 : Int) (y1 : Int) (x2 : Int) (y2 : Int) (w : World) : (Op.equalIn (d + 2) 59 (.agg #[.bool x0, .int .u64 x1, .int .u64 x2]) (.agg #[.bool y0, .int .u64 y1, .int .u64 y2])).run Tryz.prog w = .ok (decide (x0 = y0 ∧ x1 = y1 ∧ x2 = y2)) w := by
  have p0 : ∀ w, (part 4 #[.bool x0, .int .u64 x1, .int .u64 x2] 0).run Tryz.prog w = .ok (.bool x0) w := fun w => by kernel_rfl
  have q0 : ∀ w, (part 4 #[.bool y0, .int .u64 y1, .int .u64 y2] 0).run Tryz.prog w = .ok (.bool y0) w := fun w => by kernel_rfl
  have p1 : ∀ w, (part 43 #[.bool x0, .int .u64 x1, .int .u64 x2] 1).run Tryz.prog w = .ok (.int .u64 x1) w := fun w => by kernel_rfl
  have q1 : ∀ w, (part 43 #[.bool y0, .int .u64 y1, .int .u64 y2] 1).run Tryz.prog w = .ok (.int .u64 y1) w := fun w => by kernel_rfl
  have p2 : ∀ w, (part 43 #[.bool x0, .int .u64 x1, .int .u64 x2] 2).run Tryz.prog w = .ok (.int .u64 x2) w := fun w => by kernel_rfl
  have q2 : ∀ w, (part 43 #[.bool y0, .int .u64 y1, .int .u64 y2] 2).run Tryz.prog w = .ok (.int .u64 y2) w := fun w => by kernel_rfl
  rw [Op.equalIn]
  simp only [Sem.run_bind, run_underlying Tryz.underlying59, Result.andThen_ok]
  simp [SI59, p0, q0, p1, q1, p2, q2, Sv.equalIn_bool d Tryz.underlying4, Sv.equalIn_int d Tryz.underlying43]
  (repeat' split) <;> simp_all
theorem EQ59neq (x0 : Bool) (x1 : Int) (x2 : Int) (y0 : Bool) (y1 : Int) (y2 : Int) (w : World) : (binOp .neq 59 (.agg #[.bool x0, .int .u64 x1, .int .u64 x2]) (.agg #[.bool y0, .int .u64 y1, .int .u64 y2])).run Tryz.prog w = .ok (.bool (decide (¬ (x0 = y0 ∧ x1 = y1 ∧ x2 = y2)))) w :=
  Sv.run_neq_of (p := x0 = y0 ∧ x1 = y1 ∧ x2 = y2) (fun _ _ => by simp) (fun _ => by simp) (fun _ _ => by simp) (fun _ _ _ => by simp) (fun w => SEQ59 9998 x0 y0 x1 y1 x2 y2 w) w
theorem T34 : Tryz.f34.ntmps = 26 := by kernel_rfl
theorem T21 : Tryz.f21.ntmps = 17 := by kernel_rfl
theorem F53_0 (b o : Nat) (w : World) : (Instr.fieldAt 53 (.pointer (some ⟨b, o, none⟩)) 0).run Tryz.prog w = .ok (.pointer (some ⟨b, o, none⟩)) w := by kernel_rfl
theorem B37 : Tryz.f37.body.isSome = true := by kernel_rfl
theorem N37 : (Tryz.f37.name == "runtime.NumGoroutine") = false := by kernel_rfl
theorem F53_1 (b o : Nat) (w : World) : (Instr.fieldAt 53 (.pointer (some ⟨b, o, none⟩)) 1).run Tryz.prog w = .ok (.pointer (some ⟨b, o + 1, none⟩)) w := by kernel_rfl
end Go.Proofs.YtplmfekhdaefaaaGreatDoor
set_option linter.unusedSimpArgs false
set_option linter.unusedVariables false
namespace Go.Proofs.YtplmfekhdaefaaaGreatDoor
open Go
theorem T8 : Tryz.f8.ntmps = 95 := by kernel_rfl
theorem B12 : Tryz.f12.body.isSome = true := by kernel_rfl
theorem N12 : (Tryz.f12.name == "runtime.NumGoroutine") = false := by kernel_rfl
theorem B17 : Tryz.f17.body.isSome = true := by kernel_rfl
theorem N17 : (Tryz.f17.name == "runtime.NumGoroutine") = false := by kernel_rfl
theorem B18 : Tryz.f18.body.isSome = true := by kernel_rfl
theorem N18 : (Tryz.f18.name == "runtime.NumGoroutine") = false := by kernel_rfl
theorem B19 : Tryz.f19.body.isSome = true := by kernel_rfl
theorem N19 : (Tryz.f19.name == "runtime.NumGoroutine") = false := by kernel_rfl
theorem B20 : Tryz.f20.body.isSome = true := by kernel_rfl
theorem N20 : (Tryz.f20.name == "runtime.NumGoroutine") = false := by kernel_rfl
theorem Bd59_0_1_2 (x0 : Bool) (x1 : Int) (x2 : Int) (w : World) : (Instr.build 59 [(0, .bool x0), (1, .int .u64 x1), (2, .int .u64 x2)].toArray).run Tryz.prog w = .ok (.agg [.bool x0, .int .u64 x1, .int .u64 x2].toArray) w := by kernel_rfl
theorem B21 : Tryz.f21.body.isSome = true := by kernel_rfl
theorem N21 : (Tryz.f21.name == "runtime.NumGoroutine") = false := by kernel_rfl
theorem B22 : Tryz.f22.body.isSome = true := by kernel_rfl
theorem N22 : (Tryz.f22.name == "runtime.NumGoroutine") = false := by kernel_rfl
end Go.Proofs.YtplmfekhdaefaaaGreatDoor
set_option linter.unusedSimpArgs false
set_option linter.unusedVariables false
namespace Go.Proofs.YtplmfekhdaefaaaGreatDoor
open Go
theorem T11 : Tryz.f11.ntmps = 11 := by kernel_rfl
theorem Ba63_6 (x0 : ByteArray) (x1 : ByteArray) (x2 : ByteArray) (x3 : ByteArray) (x4 : ByteArray) (x5 : ByteArray) (w : World) : (Instr.build 63 [(0, .string x0), (1, .string x1), (2, .string x2), (3, .string x3), (4, .string x4), (5, .string x5)].toArray).run Tryz.prog w = .ok (.agg [.string x0, .string x1, .string x2, .string x3, .string x4, .string x5].toArray) w := by kernel_rfl
theorem B11 : Tryz.f11.body.isSome = true := by kernel_rfl
theorem N11 : (Tryz.f11.name == "runtime.NumGoroutine") = false := by kernel_rfl
theorem T7 : Tryz.f7.ntmps = 60 := by kernel_rfl
end Go.Proofs.YtplmfekhdaefaaaGreatDoor
set_option linter.unusedSimpArgs false
set_option linter.unusedVariables false
namespace Go.Proofs.YtplmfekhdaefaaaGreatDoor
open Go
theorem T10 : Tryz.f10.ntmps = 130 := by kernel_rfl
theorem I63 : Sv.TI Tryz.prog 63 (.agg #[.string (Sv.bs []), .string (Sv.bs []), .string (Sv.bs []), .string (Sv.bs []), .string (Sv.bs []), .string (Sv.bs [])]) 6 96 := by unfold Sv.TI; kernel_rfl
theorem Ba64_4 (x0 : ByteArray) (x1 : ByteArray) (x2 : ByteArray) (x3 : ByteArray) (w : World) : (Instr.build 64 [(0, .string x0), (1, .string x1), (2, .string x2), (3, .string x3)].toArray).run Tryz.prog w = .ok (.agg [.string x0, .string x1, .string x2, .string x3].toArray) w := by kernel_rfl
theorem I64 : Sv.TI Tryz.prog 64 (.agg #[.string (Sv.bs []), .string (Sv.bs []), .string (Sv.bs []), .string (Sv.bs [])]) 4 64 := by unfold Sv.TI; kernel_rfl
theorem Bd25_0 (x0 : ByteArray) (w : World) : (Instr.build 25 [(0, .string x0)].toArray).run Tryz.prog w = .ok (.agg [.string x0, .slice none 0 0, .slice none 0 0].toArray) w := by kernel_rfl
theorem Bd48_0_1_4 (x0 : Int) (x1 : ByteArray) (x4 : Int) (w : World) : (Instr.build 48 [(0, .int .i64 x0), (1, .string x1), (4, .int .i64 x4)].toArray).run Tryz.prog w = .ok (.agg [.int .i64 x0, .string x1, .bool false, .int .u64 0, .int .u64 0, .int .u64 0, .slice none 0 0, .int .i64 x4].toArray) w := by kernel_rfl
theorem Bd45_0_1_2_3 (x0 : Bool) (x1 : Int) (x2 : Int) (x3 : Int) (w : World) : (Instr.build 45 [(0, .bool x0), (1, .int .u64 x1), (2, .int .u64 x2), (3, .int .u64 x3)].toArray).run Tryz.prog w = .ok (.agg [.bool x0, .int .u64 x1, .int .u64 x2, .int .u64 x3].toArray) w := by kernel_rfl
end Go.Proofs.YtplmfekhdaefaaaGreatDoor
set_option linter.unusedSimpArgs false
set_option linter.unusedVariables false
namespace Go.Proofs.YtplmfekhdaefaaaGreatDoor
open Go
theorem B7 : Tryz.f7.body.isSome = true := by kernel_rfl
theorem N7 : (Tryz.f7.name == "runtime.NumGoroutine") = false := by kernel_rfl
theorem B8 : Tryz.f8.body.isSome = true := by kernel_rfl
theorem N8 : (Tryz.f8.name == "runtime.NumGoroutine") = false := by kernel_rfl
theorem B10 : Tryz.f10.body.isSome = true := by kernel_rfl
theorem N10 : (Tryz.f10.name == "runtime.NumGoroutine") = false := by kernel_rfl
end Go.Proofs.YtplmfekhdaefaaaGreatDoor
set_option linter.unusedSimpArgs false
set_option linter.unusedVariables false
namespace Go.Proofs.YtplmfekhdaefaaaGreatDoor
open Go
theorem B23 : Tryz.f23.body.isSome = true := by kernel_rfl
theorem N23 : (Tryz.f23.name == "runtime.NumGoroutine") = false := by kernel_rfl
end Go.Proofs.YtplmfekhdaefaaaGreatDoor
set_option linter.unusedSimpArgs false
set_option linter.unusedVariables false
namespace Go.Proofs.YtplmfekhdaefaaaGreatDoor
open Go
end Go.Proofs.YtplmfekhdaefaaaGreatDoor
set_option linter.unusedSimpArgs false
set_option linter.unusedVariables false
namespace Go.Proofs.YtplmfekhdaefaaaGreatDoor
open Go
end Go.Proofs.YtplmfekhdaefaaaGreatDoor
set_option linter.unusedSimpArgs false
set_option linter.unusedVariables false
namespace Go.Proofs.YtplmfekhdaefaaaGreatDoor
open Go
end Go.Proofs.YtplmfekhdaefaaaGreatDoor
set_option linter.unusedSimpArgs false
set_option linter.unusedVariables false
namespace Go.Proofs.YtplmfekhdaefaaaGreatDoor
open Go
theorem Bd25_0_1 (x0 : ByteArray) (x1 : Option Addr) (x1n x1c : Nat) (w : World) : (Instr.build 25 [(0, .string x0), (1, .slice x1 x1n x1c)].toArray).run Tryz.prog w = .ok (.agg [.string x0, .slice x1 x1n x1c, .slice none 0 0].toArray) w := by kernel_rfl
end Go.Proofs.YtplmfekhdaefaaaGreatDoor
set_option linter.unusedSimpArgs false
set_option linter.unusedVariables false
namespace Go.Proofs.YtplmfekhdaefaaaGreatDoor
open Go
theorem T15 : Tryz.f15.ntmps = 105 := by kernel_rfl
theorem Bd59_2 (x2 : Int) (w : World) : (Instr.build 59 [(2, .int .u64 x2)].toArray).run Tryz.prog w = .ok (.agg [.bool false, .int .u64 0, .int .u64 x2].toArray) w := by kernel_rfl
end Go.Proofs.YtplmfekhdaefaaaGreatDoor
set_option linter.unusedSimpArgs false
set_option linter.unusedVariables false
namespace Go.Proofs.YtplmfekhdaefaaaGreatDoor
open Go
theorem Ba39_3 (x00 x01 x02 : Value) (x10 x11 x12 : Value) (x20 x21 x22 : Value) (w : World) : (Instr.build 39 [(0, .agg #[x00, x01, x02]), (1, .agg #[x10, x11, x12]), (2, .agg #[x20, x21, x22])].toArray).run Tryz.prog w = .ok (.agg [x00, x01, x02, x10, x11, x12, x20, x21, x22].toArray) w := by kernel_rfl
theorem B15 : Tryz.f15.body.isSome = true := by kernel_rfl
theorem N15 : (Tryz.f15.name == "runtime.NumGoroutine") = false := by kernel_rfl
end Go.Proofs.YtplmfekhdaefaaaGreatDoor
set_option linter.unusedSimpArgs false
set_option linter.unusedVariables false
namespace Go.Proofs.YtplmfekhdaefaaaGreatDoor
open Go
theorem T80 : Tryz.f80.ntmps = 51 := by kernel_rfl
theorem I128 : Sv.TI Tryz.prog 128 (.agg #[.int .u8 0, .string (Sv.bs []), .int .u64 0]) 3 32 := by unfold Sv.TI; kernel_rfl
theorem T59 : Tryz.f59.ntmps = 18 := by kernel_rfl
theorem B80 : Tryz.f80.body.isSome = true := by kernel_rfl
theorem N80 : (Tryz.f80.name == "runtime.NumGoroutine") = false := by kernel_rfl
theorem Bd128_0_2 (x0 : Int) (x2 : Int) (w : World) : (Instr.build 128 [(0, .int .u8 x0), (2, .int .u64 x2)].toArray).run Tryz.prog w = .ok (.agg [.int .u8 x0, .string (Sv.bs []), .int .u64 x2].toArray) w := by kernel_rfl
theorem Bd128_0_1 (x0 : Int) (x1 : ByteArray) (w : World) : (Instr.build 128 [(0, .int .u8 x0), (1, .string x1)].toArray).run Tryz.prog w = .ok (.agg [.int .u8 x0, .string x1, .int .u64 0].toArray) w := by kernel_rfl
theorem T31 : Tryz.f31.ntmps = 109 := by kernel_rfl
theorem B58 : Tryz.f58.body.isSome = true := by kernel_rfl
theorem N58 : (Tryz.f58.name == "runtime.NumGoroutine") = false := by kernel_rfl
theorem B59 : Tryz.f59.body.isSome = true := by kernel_rfl
theorem N59 : (Tryz.f59.name == "runtime.NumGoroutine") = false := by kernel_rfl
theorem Bs83_1_0 (x00 x01 x02 : Value) (w : World) : (Instr.buildSlice 83 1 [(0, .agg #[x00, x01, x02])].toArray).run Tryz.prog w = .ok (.slice (some ⟨w.heap.size, 0, none⟩) 1 1) (w.alloc (.cells [x00, x01, x02].toArray 128)) := by kernel_rfl
theorem Bd128_0 (x0 : Int) (w : World) : (Instr.build 128 [(0, .int .u8 x0)].toArray).run Tryz.prog w = .ok (.agg [.int .u8 x0, .string (Sv.bs []), .int .u64 0].toArray) w := by kernel_rfl
end Go.Proofs.YtplmfekhdaefaaaGreatDoor
set_option linter.unusedSimpArgs false
set_option linter.unusedVariables false
namespace Go.Proofs.YtplmfekhdaefaaaGreatDoor
open Go
theorem T60 : Tryz.f60.ntmps = 21 := by kernel_rfl
theorem F128_0 (b o : Nat) (w : World) : (Instr.fieldAt 128 (.pointer (some ⟨b, o, none⟩)) 0).run Tryz.prog w = .ok (.pointer (some ⟨b, o, none⟩)) w := by kernel_rfl
theorem Bs33_1_0 (x0 : Int) (w : World) : (Instr.buildSlice 33 1 [(0, .int .u8 x0)].toArray).run Tryz.prog w = .ok (.slice (some ⟨w.heap.size, 0, none⟩) 1 1) (w.alloc (.cells [.int .u8 x0].toArray 5)) := by kernel_rfl
theorem T81 : Tryz.f81.ntmps = 76 := by kernel_rfl
theorem B60 : Tryz.f60.body.isSome = true := by kernel_rfl
theorem N60 : (Tryz.f60.name == "runtime.NumGoroutine") = false := by kernel_rfl
theorem F128_1 (b o : Nat) (w : World) : (Instr.fieldAt 128 (.pointer (some ⟨b, o, none⟩)) 1).run Tryz.prog w = .ok (.pointer (some ⟨b, o + 1, none⟩)) w := by kernel_rfl
theorem F128_2 (b o : Nat) (w : World) : (Instr.fieldAt 128 (.pointer (some ⟨b, o, none⟩)) 2).run Tryz.prog w = .ok (.pointer (some ⟨b, o + 2, none⟩)) w := by kernel_rfl
end Go.Proofs.YtplmfekhdaefaaaGreatDoor
set_option linter.unusedSimpArgs false
set_option linter.unusedVariables false
namespace Go.Proofs.YtplmfekhdaefaaaGreatDoor
open Go
theorem I88 : Sv.TI Tryz.prog 88 (.agg #[.int .i64 0, .string (Sv.bs []), .bool false, .int .u64 0, .int .u64 0, .int .u64 0, .slice none 0 0, .int .i64 0, .string (Sv.bs [])]) 9 104 := by unfold Sv.TI; kernel_rfl
theorem T61 : Tryz.f61.ntmps = 89 := by kernel_rfl
theorem F88_0 (b o : Nat) (w : World) : (Instr.fieldAt 88 (.pointer (some ⟨b, o, none⟩)) 0).run Tryz.prog w = .ok (.pointer (some ⟨b, o, none⟩)) w := by kernel_rfl
theorem F88_1 (b o : Nat) (w : World) : (Instr.fieldAt 88 (.pointer (some ⟨b, o, none⟩)) 1).run Tryz.prog w = .ok (.pointer (some ⟨b, o + 8, none⟩)) w := by kernel_rfl
theorem B81 : Tryz.f81.body.isSome = true := by kernel_rfl
theorem N81 : (Tryz.f81.name == "runtime.NumGoroutine") = false := by kernel_rfl
end Go.Proofs.YtplmfekhdaefaaaGreatDoor
set_option linter.unusedSimpArgs false
set_option linter.unusedVariables false
namespace Go.Proofs.YtplmfekhdaefaaaGreatDoor
open Go
theorem T30 : Tryz.f30.ntmps = 32 := by kernel_rfl
theorem T32 : Tryz.f32.ntmps = 96 := by kernel_rfl
theorem F81_2 (b o : Nat) (w : World) : (Instr.fieldAt 81 (.pointer (some ⟨b, o, none⟩)) 2).run Tryz.prog w = .ok (.pointer (some ⟨b, o + 4, none⟩)) w := by kernel_rfl
theorem F81_0 (b o : Nat) (w : World) : (Instr.fieldAt 81 (.pointer (some ⟨b, o, none⟩)) 0).run Tryz.prog w = .ok (.pointer (some ⟨b, o, none⟩)) w := by kernel_rfl
theorem B61 : Tryz.f61.body.isSome = true := by kernel_rfl
theorem N61 : (Tryz.f61.name == "runtime.NumGoroutine") = false := by kernel_rfl
theorem F81_1 (b o : Nat) (w : World) : (Instr.fieldAt 81 (.pointer (some ⟨b, o, none⟩)) 1).run Tryz.prog w = .ok (.pointer (some ⟨b, o + 3, none⟩)) w := by kernel_rfl
theorem Bs79_1_0 (x00 x01 x02 x03 x04 x05 x06 x07 x08 : Value) (w : World) : (Instr.buildSlice 79 1 [(0, .agg #[x00, x01, x02, x03, x04, x05, x06, x07, x08])].toArray).run Tryz.prog w = .ok (.slice (some ⟨w.heap.size, 0, none⟩) 1 1) (w.alloc (.cells [x00, x01, x02, x03, x04, x05, x06, x07, x08].toArray 88)) := by kernel_rfl
theorem I79 : Sv.TI Tryz.prog 79 (.slice none 0 0) 1 24 := by unfold Sv.TI; kernel_rfl
end Go.Proofs.YtplmfekhdaefaaaGreatDoor
set_option linter.unusedSimpArgs false
set_option linter.unusedVariables false
namespace Go.Proofs.YtplmfekhdaefaaaGreatDoor
open Go
theorem T13 : Tryz.f13.ntmps = 139 := by kernel_rfl
theorem Bd81_  (w : World) : (Instr.build 81 [].toArray).run Tryz.prog w = .ok (.agg [.string (Sv.bs []), .slice none 0 0, .slice none 0 0, .slice none 0 0, .bool false].toArray) w := by kernel_rfl
theorem B30 : Tryz.f30.body.isSome = true := by kernel_rfl
theorem N30 : (Tryz.f30.name == "runtime.NumGoroutine") = false := by kernel_rfl
theorem B31 : Tryz.f31.body.isSome = true := by kernel_rfl
theorem N31 : (Tryz.f31.name == "runtime.NumGoroutine") = false := by kernel_rfl
theorem B32 : Tryz.f32.body.isSome = true := by kernel_rfl
theorem N32 : (Tryz.f32.name == "runtime.NumGoroutine") = false := by kernel_rfl
end Go.Proofs.YtplmfekhdaefaaaGreatDoor
set_option linter.unusedSimpArgs false
set_option linter.unusedVariables false
namespace Go.Proofs.YtplmfekhdaefaaaGreatDoor
open Go
theorem T36 : Tryz.f36.ntmps = 38 := by kernel_rfl
theorem EG45eql (x y : Operand) (xs ys : Array Value) (w : World) : (eqGuard .eql 45 x y (.agg xs) (.agg ys)).run Tryz.prog w = .ok () w := by kernel_rfl
theorem EQ45eql (x0 : Bool) (x1 : Int) (x2 : Int) (x3 : Int) (y0 : Bool) (y1 : Int) (y2 : Int) (y3 : Int) (w : World) : (binOp .eql 45 (.agg #[.bool x0, .int .u64 x1, .int .u64 x2, .int .u64 x3]) (.agg #[.bool y0, .int .u64 y1, .int .u64 y2, .int .u64 y3])).run Tryz.prog w = .ok (.bool (decide (x0 = y0 ∧ x1 = y1 ∧ x2 = y2 ∧ x3 = y3))) w :=
  Sv.run_eql_of (p := x0 = y0 ∧ x1 = y1 ∧ x2 = y2 ∧ x3 = y3) (fun _ _ => by simp) (fun _ => by simp) (fun _ _ => by simp) (fun _ _ _ => by simp) (fun w => SEQ45 9998 x0 y0 x1 y1 x2 y2 x3 y3 w) w
theorem T35 : Tryz.f35.ntmps = 30 := by kernel_rfl
theorem B36 : Tryz.f36.body.isSome = true := by kernel_rfl
theorem N36 : (Tryz.f36.name == "runtime.NumGoroutine") = false := by kernel_rfl
theorem T14 : Tryz.f14.ntmps = 24 := by kernel_rfl
theorem B34 : Tryz.f34.body.isSome = true := by kernel_rfl
theorem N34 : (Tryz.f34.name == "runtime.NumGoroutine") = false := by kernel_rfl
theorem B35 : Tryz.f35.body.isSome = true := by kernel_rfl
theorem N35 : (Tryz.f35.name == "runtime.NumGoroutine") = false := by kernel_rfl
theorem B13 : Tryz.f13.body.isSome = true := by kernel_rfl
theorem N13 : (Tryz.f13.name == "runtime.NumGoroutine") = false := by kernel_rfl
theorem B14 : Tryz.f14.body.isSome = true := by kernel_rfl
theorem N14 : (Tryz.f14.name == "runtime.NumGoroutine") = false := by kernel_rfl
end Go.Proofs.YtplmfekhdaefaaaGreatDoor
set_option linter.unusedSimpArgs false
set_option linter.unusedVariables false
namespace Go.Proofs.YtplmfekhdaefaaaGreatDoor
open Go
end Go.Proofs.YtplmfekhdaefaaaGreatDoor
