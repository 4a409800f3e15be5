/-
  Joined.
-/
import Derived.Test.YtkofjhglgoojiaaGreatDoorP01
import Derived.Test.YtkofjhglgoojiaaGreatDoorProg
set_option linter.unusedSimpArgs false
set_option linter.unusedVariables false
namespace Go.Proofs.YtkofjhglgoojiaaGreatDoor
open Go
instance C195:Sv.Fnc Tryz.prog 195 Tryz.f195 9:={}
instance C178:Sv.Fnc Tryz.prog 178 Tryz.f178 25:={}
instance C117:Sv.Fnc Tryz.prog 117 Tryz.f117 29:={}
instance C183:Sv.Fnc Tryz.prog 183 Tryz.f183 27:={}
instance C121:Sv.Fnc Tryz.prog 121 Tryz.f121 55:={}
instance C78:Sv.Fnc Tryz.prog 78 Tryz.f78 25:={}
instance I9:Sv.Inf Tryz.prog 9 (.string (Sv.bs [])) 1 16:={}
instance C122:Sv.Fnc Tryz.prog 122 Tryz.f122 83:={}
instance F191_0:Sv.Fld Tryz.prog 191 0 0:={}
instance F191_4:Sv.Fld Tryz.prog 191 4 7:={}
instance F191_1:Sv.Fld Tryz.prog 191 1 1:={}
instance F191_3:Sv.Fld Tryz.prog 191 3 6:={}
instance F191_2:Sv.Fld Tryz.prog 191 2 2:={}
instance F188_0:Sv.Fld Tryz.prog 188 0 0:={}
instance F188_1:Sv.Fld Tryz.prog 188 1 1:={}
instance F188_2:Sv.Fld Tryz.prog 188 2 2:={}
instance F188_3:Sv.Fld Tryz.prog 188 3 3:={}
instance I193:Sv.Inf Tryz.prog 193 (.agg #[.bool false,.int .u64 0,.int .u64 0]) 3 24:={}
instance F193_0:Sv.Fld Tryz.prog 193 0 0:={}
instance F193_2:Sv.Fld Tryz.prog 193 2 2:={}
instance C79:Sv.Fnc Tryz.prog 79 Tryz.f79 81:={}
instance F66_0:Sv.Fld Tryz.prog 66 0 0:={}
instance F66_1:Sv.Fld Tryz.prog 66 1 1:={}
instance F66_2:Sv.Fld Tryz.prog 66 2 2:={}
instance I191:Sv.Inf Tryz.prog 191 (.agg #[.int .i64 0,.string (Sv.bs []),.bool false,.int .u64 0,.int .u64 0,.int .u64 0,.slice none 0 0,.int .i64 0]) 8 88:={}
instance C201:Sv.Fnc Tryz.prog 201 Tryz.f201 11:={}
instance C208:Sv.Fnc Tryz.prog 208 Tryz.f208 19:={}
instance C200:Sv.Fnc Tryz.prog 200 Tryz.f200 9:={}
instance C184:Sv.Fnc Tryz.prog 184 Tryz.f184 51:={}
instance I188:Sv.Inf Tryz.prog 188 (.agg #[.bool false,.int .u64 0,.int .u64 0,.int .u64 0]) 4 32:={}
theorem Bd188_ (w:World):(Instr.build 188 [].toArray).run Tryz.prog w= .ok (.agg [.bool false,.int .u64 0,.int .u64 0,.int .u64 0].toArray) w:=by kernel_rfl
theorem EG188neq (x y:Operand) (xs ys:Array Value) (w:World):(eqGuard .neq 188 x y (.agg xs) (.agg ys)).run Tryz.prog w= .ok () w:=by kernel_rfl
theorem SI188:Tryz.prog.stoodInHeld 188=false:=by kernel_rfl
theorem SEQ188 (d:Nat) (x0:Bool) (y0:Bool) (x1:Int) (y1:Int) (x2:Int) (y2:Int) (x3:Int) (y3:Int) (w:World):(Op.equalIn (d+2) 188 (.agg #[.bool x0,.int .u64 x1,.int .u64 x2,.int .u64 x3]) (.agg #[.bool y0,.int .u64 y1,.int .u64 y2,.int .u64 y3])).run Tryz.prog w= .ok (decide (x0=y0∧x1=y1∧x2=y2∧x3=y3)) w:=by
 have p0: ∀w,(part 4 #[.bool x0,.int .u64 x1,.int .u64 x2,.int .u64 x3] 0).run Tryz.prog w= .ok (.bool x0) w:=fun w=>by kernel_rfl
 have q0: ∀w,(part 4 #[.bool y0,.int .u64 y1,.int .u64 y2,.int .u64 y3] 0).run Tryz.prog w= .ok (.bool y0) w:=fun w=>by kernel_rfl
 have p1: ∀w,(part 37 #[.bool x0,.int .u64 x1,.int .u64 x2,.int .u64 x3] 1).run Tryz.prog w= .ok (.int .u64 x1) w:=fun w=>by kernel_rfl
 have q1: ∀w,(part 37 #[.bool y0,.int .u64 y1,.int .u64 y2,.int .u64 y3] 1).run Tryz.prog w= .ok (.int .u64 y1) w:=fun w=>by kernel_rfl
 have p2: ∀w,(part 37 #[.bool x0,.int .u64 x1,.int .u64 x2,.int .u64 x3] 2).run Tryz.prog w= .ok (.int .u64 x2) w:=fun w=>by kernel_rfl
 have q2: ∀w,(part 37 #[.bool y0,.int .u64 y1,.int .u64 y2,.int .u64 y3] 2).run Tryz.prog w= .ok (.int .u64 y2) w:=fun w=>by kernel_rfl
 have p3: ∀w,(part 37 #[.bool x0,.int .u64 x1,.int .u64 x2,.int .u64 x3] 3).run Tryz.prog w= .ok (.int .u64 x3) w:=fun w=>by kernel_rfl
 have q3: ∀w,(part 37 #[.bool y0,.int .u64 y1,.int .u64 y2,.int .u64 y3] 3).run Tryz.prog w= .ok (.int .u64 y3) w:=fun w=>by kernel_rfl
 rw[Op.equalIn]
 simp only[Sem.run_bind,run_underlying Tryz.underlying188,Result.andThen_ok]
 simp[SI188,p0,q0,p1,q1,p2,q2,p3,q3,Sv.equalIn_bool d Tryz.underlying4,Sv.equalIn_int d Tryz.underlying37]
 (repeat' split)<;>simp_all
theorem EQ188neq (x0:Bool) (x1:Int) (x2:Int) (x3:Int) (y0:Bool) (y1:Int) (y2:Int) (y3:Int) (w:World):(binOp .neq 188 (.agg #[.bool x0,.int .u64 x1,.int .u64 x2,.int .u64 x3]) (.agg #[.bool y0,.int .u64 y1,.int .u64 y2,.int .u64 y3])).run Tryz.prog w= .ok (.bool (decide (¬(x0=y0∧x1=y1∧x2=y2∧x3=y3)))) w:=
 Sv.run_neq_of (p:=x0=y0∧x1=y1∧x2=y2∧x3=y3) (fun _ _=>by simp) (fun _=>by simp) (fun _ _=>by simp) (fun _ _ _=>by simp) (fun w=>SEQ188 9998 x0 y0 x1 y1 x2 y2 x3 y3 w) w
instance I4:Sv.Inf Tryz.prog 4 (.bool false) 1 1:={}
instance C168:Sv.Fnc Tryz.prog 168 Tryz.f168 21:={}
instance C169:Sv.Fnc Tryz.prog 169 Tryz.f169 66:={}
theorem X99a:(Tryz.f220.name== "runtime.NumGoroutine")=false:=by kernel_rfl
theorem X99b:Tryz.f220.body.isNone=true:=by kernel_rfl
theorem X99c:Extern.findNext Tryz.f220=none:=by kernel_rfl
theorem X99d:Extern.find Tryz.f220=some Extern.BytealgIndexByte.indexByte:=by kernel_rfl
instance C210:Sv.Fnc Tryz.prog 210 Tryz.f210 8:={}
instance C205:Sv.Fnc Tryz.prog 205 Tryz.f205 143:={}
instance C192:Sv.Fnc Tryz.prog 192 Tryz.f192 8:={}
instance C193:Sv.Fnc Tryz.prog 193 Tryz.f193 23:={}
instance C176:Sv.Fnc Tryz.prog 176 Tryz.f176 13:={}
instance C194:Sv.Fnc Tryz.prog 194 Tryz.f194 18:={}
instance C177:Sv.Fnc Tryz.prog 177 Tryz.f177 8:={}
instance I370:Sv.Inf Tryz.prog 370 (.agg #[.int .i64 0,.string (Sv.bs []),.int .u64 0]) 3 32:={}
instance C179:Sv.Fnc Tryz.prog 179 Tryz.f179 46:={}
theorem Bd370_0_1 (x0:Int) (x1:ByteArray) (w:World):(Instr.build 370 [(0,.int .i64 x0),(1,.string x1)].toArray).run Tryz.prog w= .ok (.agg [.int .i64 x0,.string x1,.int .u64 0].toArray) w:=by kernel_rfl
theorem Bd370_ (w:World):(Instr.build 370 [].toArray).run Tryz.prog w= .ok (.agg [.int .i64 0,.string (Sv.bs []),.int .u64 0].toArray) w:=by kernel_rfl
instance C196:Sv.Fnc Tryz.prog 196 Tryz.f196 26:={}
theorem Bd370_0_2 (x0:Int) (x2:Int) (w:World):(Instr.build 370 [(0,.int .i64 x0),(2,.int .u64 x2)].toArray).run Tryz.prog w= .ok (.agg [.int .i64 x0,.string (Sv.bs []),.int .u64 x2].toArray) w:=by kernel_rfl
instance C166:Sv.Fnc Tryz.prog 166 Tryz.f166 98:={}
theorem Bs356_1_0 (x00 x01 x02:Value) (w:World):(Instr.buildSlice 356 1 [(0,.agg #[x00,x01,x02])].toArray).run Tryz.prog w= .ok (.slice (some ⟨w.heap.size,0,none⟩) 1 1) (w.alloc (.cells [x00,x01,x02].toArray 370)):=by kernel_rfl
instance C181:Sv.Fnc Tryz.prog 181 Tryz.f181 13:={}
instance F376_1:Sv.Fld Tryz.prog 376 1 1:={}
instance F376_0:Sv.Fld Tryz.prog 376 0 0:={}
instance C180:Sv.Fnc Tryz.prog 180 Tryz.f180 39:={}
instance F370_0:Sv.Fld Tryz.prog 370 0 0:={}
instance I3:Sv.Inf Tryz.prog 3 (.int .i64 0) 1 8:={}
instance F370_1:Sv.Fld Tryz.prog 370 1 1:={}
instance C197:Sv.Fnc Tryz.prog 197 Tryz.f197 46:={}
instance I37:Sv.Inf Tryz.prog 37 (.int .u64 0) 1 8:={}
instance C198:Sv.Fnc Tryz.prog 198 Tryz.f198 41:={}
instance F370_2:Sv.Fld Tryz.prog 370 2 2:={}
instance C199:Sv.Fnc Tryz.prog 199 Tryz.f199 29:={}
instance F193_1:Sv.Fld Tryz.prog 193 1 1:={}
instance C182:Sv.Fnc Tryz.prog 182 Tryz.f182 89:={}
theorem Bs189_1_0 (x00 x01 x02:Value) (w:World):(Instr.buildSlice 189 1 [(0,.agg #[x00,x01,x02])].toArray).run Tryz.prog w= .ok (.slice (some ⟨w.heap.size,0,none⟩) 1 1) (w.alloc (.cells [x00,x01,x02].toArray 193)):=by kernel_rfl
instance I189:Sv.Inf Tryz.prog 189 (.slice none 0 0) 1 24:={}
instance C167:Sv.Fnc Tryz.prog 167 Tryz.f167 120:={}
theorem Bd376_0 (x0:Option Addr) (x0n x0c:Nat) (w:World):(Instr.build 376 [(0,.slice x0 x0n x0c)].toArray).run Tryz.prog w= .ok (.agg [.slice x0 x0n x0c,.int .i64 0].toArray) w:=by kernel_rfl
instance I376:Sv.Inf Tryz.prog 376 (.agg #[.slice none 0 0,.int .i64 0]) 2 32:={}
instance F352_1:Sv.Fld Tryz.prog 352 1 3:={}
instance F352_0:Sv.Fld Tryz.prog 352 0 0:={}
theorem Bs63_1_0 (x0:ByteArray) (w:World):(Instr.buildSlice 63 1 [(0,.string x0)].toArray).run Tryz.prog w= .ok (.slice (some ⟨w.heap.size,0,none⟩) 1 1) (w.alloc (.cells [.string x0].toArray 9)):=by kernel_rfl
instance I63:Sv.Inf Tryz.prog 63 (.slice none 0 0) 1 24:={}
theorem Bs64_1_0 (x00 x01 x02 x03 x04 x05 x06 x07:Value) (w:World):(Instr.buildSlice 64 1 [(0,.agg #[x00,x01,x02,x03,x04,x05,x06,x07])].toArray).run Tryz.prog w= .ok (.slice (some ⟨w.heap.size,0,none⟩) 1 1) (w.alloc (.cells [x00,x01,x02,x03,x04,x05,x06,x07].toArray 191)):=by kernel_rfl
instance I64:Sv.Inf Tryz.prog 64 (.slice none 0 0) 1 24:={}
instance F352_2:Sv.Fld Tryz.prog 352 2 4:={}
instance C190:Sv.Fnc Tryz.prog 190 Tryz.f190 52:={}
instance C175:Sv.Fnc Tryz.prog 175 Tryz.f175 8:={}
instance C165:Sv.Fnc Tryz.prog 165 Tryz.f165 8:={}
instance I66:Sv.Inf Tryz.prog 66 (.agg #[.string (Sv.bs []),.slice none 0 0,.slice none 0 0]) 3 64:={}
instance C143:Sv.Fnc Tryz.prog 143 Tryz.f143 93:={}
theorem T143:Tryz.f143.ntmps=93:=by kernel_rfl
instance I47:Sv.Inf Tryz.prog 47 (.int .i64 0) 1 8:={}
instance I352:Sv.Inf Tryz.prog 352 (.agg #[.string (Sv.bs []),.slice none 0 0,.slice none 0 0,.bool false,.slice none 0 0]) 5 96:={}
theorem Bd66_ (w:World):(Instr.build 66 [].toArray).run Tryz.prog w= .ok (.agg [.string (Sv.bs []),.slice none 0 0,.slice none 0 0].toArray) w:=by kernel_rfl
instance C185:Sv.Fnc Tryz.prog 185 Tryz.f185 8:={}
theorem Bs63_0_ (w:World):(Instr.buildSlice 63 0 [].toArray).run Tryz.prog w= .ok (.slice (some ⟨w.heap.size,0,none⟩) 0 0) (w.alloc (.cells [].toArray 9)):=by kernel_rfl
instance C186:Sv.Fnc Tryz.prog 186 Tryz.f186 8:={}
theorem Bs64_0_ (w:World):(Instr.buildSlice 64 0 [].toArray).run Tryz.prog w= .ok (.slice (some ⟨w.heap.size,0,none⟩) 0 0) (w.alloc (.cells [].toArray 191)):=by kernel_rfl
instance C187:Sv.Fnc Tryz.prog 187 Tryz.f187 8:={}
theorem Bs189_0_ (w:World):(Instr.buildSlice 189 0 [].toArray).run Tryz.prog w= .ok (.slice (some ⟨w.heap.size,0,none⟩) 0 0) (w.alloc (.cells [].toArray 193)):=by kernel_rfl
instance C170:Sv.Fnc Tryz.prog 170 Tryz.f170 32:={}
theorem Bd193_1 (x1:Int) (w:World):(Instr.build 193 [(1,.int .u64 x1)].toArray).run Tryz.prog w= .ok (.agg [.bool false,.int .u64 x1,.int .u64 0].toArray) w:=by kernel_rfl
instance C145:Sv.Fnc Tryz.prog 145 Tryz.f145 14:={}
theorem Bd363_0 (x00 x01 x02:Value) (w:World):(Instr.build 363 [(0,.agg #[x00,x01,x02])].toArray).run Tryz.prog w= .ok (.agg [x00,x01,x02,.int .i64 0,.bool false,.int .i64 0].toArray) w:=by kernel_rfl
theorem Bd193_0_1_2 (x0:Bool) (x1:Int) (x2:Int) (w:World):(Instr.build 193 [(0,.bool x0),(1,.int .u64 x1),(2,.int .u64 x2)].toArray).run Tryz.prog w= .ok (.agg [.bool x0,.int .u64 x1,.int .u64 x2].toArray) w:=by kernel_rfl
instance C7:Sv.Fnc Tryz.prog 7 Tryz.f7 11:={}
theorem Ba186_6 (x0:ByteArray) (x1:ByteArray) (x2:ByteArray) (x3:ByteArray) (x4:ByteArray) (x5:ByteArray) (w:World):(Instr.build 186 [(0,.string x0),(1,.string x1),(2,.string x2),(3,.string x3),(4,.string x4),(5,.string x5)].toArray).run Tryz.prog w= .ok (.agg [.string x0,.string x1,.string x2,.string x3,.string x4,.string x5].toArray) w:=by kernel_rfl
instance C56:Sv.Fnc Tryz.prog 56 Tryz.f56 130:={}
instance I186:Sv.Inf Tryz.prog 186 (.agg #[.string (Sv.bs []),.string (Sv.bs []),.string (Sv.bs []),.string (Sv.bs []),.string (Sv.bs []),.string (Sv.bs [])]) 6 96:={}
theorem Ba42_4 (x0:ByteArray) (x1:ByteArray) (x2:ByteArray) (x3:ByteArray) (w:World):(Instr.build 42 [(0,.string x0),(1,.string x1),(2,.string x2),(3,.string x3)].toArray).run Tryz.prog w= .ok (.agg [.string x0,.string x1,.string x2,.string x3].toArray) w:=by kernel_rfl
instance I42:Sv.Inf Tryz.prog 42 (.agg #[.string (Sv.bs []),.string (Sv.bs []),.string (Sv.bs []),.string (Sv.bs [])]) 4 64:={}
theorem Bd66_0 (x0:ByteArray) (w:World):(Instr.build 66 [(0,.string x0)].toArray).run Tryz.prog w= .ok (.agg [.string x0,.slice none 0 0,.slice none 0 0].toArray) w:=by kernel_rfl
theorem Bd191_0_1_4 (x0:Int) (x1:ByteArray) (x4:Int) (w:World):(Instr.build 191 [(0,.int .i64 x0),(1,.string x1),(4,.int .i64 x4)].toArray).run Tryz.prog w= .ok (.agg [.int .i64 x0,.string x1,.bool false,.int .u64 0,.int .u64 0,.int .u64 0,.slice none 0 0,.int .i64 x4].toArray) w:=by kernel_rfl
theorem Bd188_0_1_2_3 (x0:Bool) (x1:Int) (x2:Int) (x3:Int) (w:World):(Instr.build 188 [(0,.bool x0),(1,.int .u64 x1),(2,.int .u64 x2),(3,.int .u64 x3)].toArray).run Tryz.prog w= .ok (.agg [.bool x0,.int .u64 x1,.int .u64 x2,.int .u64 x3].toArray) w:=by kernel_rfl
instance C153:Sv.Fnc Tryz.prog 153 Tryz.f153 51:={}
instance I292:Sv.Inf Tryz.prog 292 (.agg #[.int .u8 0,.string (Sv.bs []),.int .u64 0]) 3 32:={}
instance C118:Sv.Fnc Tryz.prog 118 Tryz.f118 18:={}
theorem Bd292_0_2 (x0:Int) (x2:Int) (w:World):(Instr.build 292 [(0,.int .u8 x0),(2,.int .u64 x2)].toArray).run Tryz.prog w= .ok (.agg [.int .u8 x0,.string (Sv.bs []),.int .u64 x2].toArray) w:=by kernel_rfl
theorem Bd292_0_1 (x0:Int) (x1:ByteArray) (w:World):(Instr.build 292 [(0,.int .u8 x0),(1,.string x1)].toArray).run Tryz.prog w= .ok (.agg [.int .u8 x0,.string x1,.int .u64 0].toArray) w:=by kernel_rfl
instance C76:Sv.Fnc Tryz.prog 76 Tryz.f76 109:={}
theorem Bs221_1_0 (x00 x01 x02:Value) (w:World):(Instr.buildSlice 221 1 [(0,.agg #[x00,x01,x02])].toArray).run Tryz.prog w= .ok (.slice (some ⟨w.heap.size,0,none⟩) 1 1) (w.alloc (.cells [x00,x01,x02].toArray 292)):=by kernel_rfl
theorem Bd292_0 (x0:Int) (w:World):(Instr.build 292 [(0,.int .u8 x0)].toArray).run Tryz.prog w= .ok (.agg [.int .u8 x0,.string (Sv.bs []),.int .u64 0].toArray) w:=by kernel_rfl
instance C119:Sv.Fnc Tryz.prog 119 Tryz.f119 21:={}
instance F292_0:Sv.Fld Tryz.prog 292 0 0:={}
theorem Bs208_1_0 (x0:Int) (w:World):(Instr.buildSlice 208 1 [(0,.int .u8 x0)].toArray).run Tryz.prog w= .ok (.slice (some ⟨w.heap.size,0,none⟩) 1 1) (w.alloc (.cells [.int .u8 x0].toArray 5)):=by kernel_rfl
instance C154:Sv.Fnc Tryz.prog 154 Tryz.f154 76:={}
instance F292_1:Sv.Fld Tryz.prog 292 1 1:={}
instance F292_2:Sv.Fld Tryz.prog 292 2 2:={}
instance I227:Sv.Inf Tryz.prog 227 (.agg #[.int .i64 0,.string (Sv.bs []),.bool false,.int .u64 0,.int .u64 0,.int .u64 0,.slice none 0 0,.int .i64 0,.string (Sv.bs [])]) 9 104:={}
instance C120:Sv.Fnc Tryz.prog 120 Tryz.f120 89:={}
instance F227_0:Sv.Fld Tryz.prog 227 0 0:={}
instance F227_1:Sv.Fld Tryz.prog 227 1 8:={}
instance C75:Sv.Fnc Tryz.prog 75 Tryz.f75 32:={}
instance C77:Sv.Fnc Tryz.prog 77 Tryz.f77 96:={}
instance F219_2:Sv.Fld Tryz.prog 219 2 4:={}
instance F219_0:Sv.Fld Tryz.prog 219 0 0:={}
instance F219_1:Sv.Fld Tryz.prog 219 1 3:={}
theorem Bs217_1_0 (x00 x01 x02 x03 x04 x05 x06 x07 x08:Value) (w:World):(Instr.buildSlice 217 1 [(0,.agg #[x00,x01,x02,x03,x04,x05,x06,x07,x08])].toArray).run Tryz.prog w= .ok (.slice (some ⟨w.heap.size,0,none⟩) 1 1) (w.alloc (.cells [x00,x01,x02,x03,x04,x05,x06,x07,x08].toArray 227)):=by kernel_rfl
instance I217:Sv.Inf Tryz.prog 217 (.slice none 0 0) 1 24:={}
instance C37:Sv.Fnc Tryz.prog 37 Tryz.f37 139:={}
theorem Bd219_ (w:World):(Instr.build 219 [].toArray).run Tryz.prog w= .ok (.agg [.string (Sv.bs []),.slice none 0 0,.slice none 0 0,.slice none 0 0,.bool false].toArray) w:=by kernel_rfl
instance I5:Sv.Inf Tryz.prog 5 (.int .u8 0) 1 1:={}
instance C141:Sv.Fnc Tryz.prog 141 Tryz.f141 22:={}
instance C103:Sv.Fnc Tryz.prog 103 Tryz.f103 86:={}
instance C57:Sv.Fnc Tryz.prog 57 Tryz.f57 67:={}
instance I183:Sv.Inf Tryz.prog 183 (.agg #[.int .i64 0,.int .u64 0,.int .u64 0]) 3 24:={}
instance F183_0:Sv.Fld Tryz.prog 183 0 0:={}
instance F183_1:Sv.Fld Tryz.prog 183 1 1:={}
instance F183_2:Sv.Fld Tryz.prog 183 2 2:={}
instance C149:Sv.Fnc Tryz.prog 149 Tryz.f149 8:={}
theorem Bs24_0_ (w:World):(Instr.buildSlice 24 0 [].toArray).run Tryz.prog w= .ok (.slice (some ⟨w.heap.size,0,none⟩) 0 0) (w.alloc (.cells [].toArray 183)):=by kernel_rfl
instance C41:Sv.Fnc Tryz.prog 41 Tryz.f41 8:={}
theorem Bs32_0_ (w:World):(Instr.buildSlice 32 0 [].toArray).run Tryz.prog w= .ok (.slice (some ⟨w.heap.size,0,none⟩) 0 0) (w.alloc (.cells [].toArray 3)):=by kernel_rfl
instance C151:Sv.Fnc Tryz.prog 151 Tryz.f151 19:={}
theorem SI138:Tryz.prog.stoodInHeld 138=false:=by kernel_rfl
theorem SEQ138 (d:Nat) (x0:Int) (y0:Int) (x1:Int) (y1:Int) (w:World):(Op.equalIn (d+2) 138 (.agg #[.int .i64 x0,.int .i64 x1]) (.agg #[.int .i64 y0,.int .i64 y1])).run Tryz.prog w= .ok (decide (x0=y0∧x1=y1)) w:=by
 have p0: ∀w,(part 3 #[.int .i64 x0,.int .i64 x1] 0).run Tryz.prog w= .ok (.int .i64 x0) w:=fun w=>by kernel_rfl
 have q0: ∀w,(part 3 #[.int .i64 y0,.int .i64 y1] 0).run Tryz.prog w= .ok (.int .i64 y0) w:=fun w=>by kernel_rfl
 have p1: ∀w,(part 3 #[.int .i64 x0,.int .i64 x1] 1).run Tryz.prog w= .ok (.int .i64 x1) w:=fun w=>by kernel_rfl
 have q1: ∀w,(part 3 #[.int .i64 y0,.int .i64 y1] 1).run Tryz.prog w= .ok (.int .i64 y1) w:=fun w=>by kernel_rfl
 rw[Op.equalIn]
 simp only[Sem.run_bind,run_underlying Tryz.underlying138,Result.andThen_ok]
 simp[SI138,p0,q0,p1,q1,Sv.equalIn_int d Tryz.underlying3]
 (repeat' split)<;>simp_all
instance C109:Sv.Fnc Tryz.prog 109 Tryz.f109 63:={}
instance I138:Sv.Inf Tryz.prog 138 (.agg #[.int .i64 0,.int .i64 0]) 2 16:={}
instance F138_0:Sv.Fld Tryz.prog 138 0 0:={}
instance F138_1:Sv.Fld Tryz.prog 138 1 1:={}
instance C150:Sv.Fnc Tryz.prog 150 Tryz.f150 47:={}
instance I32:Sv.Inf Tryz.prog 32 (.slice none 0 0) 1 24:={}
theorem Bs32_1_0 (x0:Int) (w:World):(Instr.buildSlice 32 1 [(0,.int .i64 x0)].toArray).run Tryz.prog w= .ok (.slice (some ⟨w.heap.size,0,none⟩) 1 1) (w.alloc (.cells [.int .i64 x0].toArray 3)):=by kernel_rfl
instance C110:Sv.Fnc Tryz.prog 110 Tryz.f110 62:={}
instance C148:Sv.Fnc Tryz.prog 148 Tryz.f148 18:={}
instance C108:Sv.Fnc Tryz.prog 108 Tryz.f108 66:={}
theorem Bd138_0_1 (x0:Int) (x1:Int) (w:World):(Instr.build 138 [(0,.int .i64 x0),(1,.int .i64 x1)].toArray).run Tryz.prog w= .ok (.agg [.int .i64 x0,.int .i64 x1].toArray) w:=by kernel_rfl
theorem Bs128_1_0 (x00 x01:Value) (w:World):(Instr.buildSlice 128 1 [(0,.agg #[x00,x01])].toArray).run Tryz.prog w= .ok (.slice (some ⟨w.heap.size,0,none⟩) 1 1) (w.alloc (.cells [x00,x01].toArray 138)):=by kernel_rfl
theorem Bd328_0_1_2 (x0:Option Addr) (x0n x0c:Nat) (x1:Option Addr) (x1n x1c:Nat) (x2:Option Addr) (x2n x2c:Nat) (w:World):(Instr.build 328 [(0,.slice x0 x0n x0c),(1,.slice x1 x1n x1c),(2,.slice x2 x2n x2c)].toArray).run Tryz.prog w= .ok (.agg [.slice x0 x0n x0c,.slice x1 x1n x1c,.slice x2 x2n x2c,.int .u64 0].toArray) w:=by kernel_rfl
instance C81:Sv.Fnc Tryz.prog 81 Tryz.f81 84:={}
theorem Bd302_0_1_2 (x0:Option Addr) (x0n x0c:Nat) (x1:Option Addr) (x1n x1c:Nat) (x2:Option Addr) (x2n x2c:Nat) (w:World):(Instr.build 302 [(0,.slice x0 x0n x0c),(1,.slice x1 x1n x1c),(2,.slice x2 x2n x2c)].toArray).run Tryz.prog w= .ok (.agg [.slice x0 x0n x0c,.slice x1 x1n x1c,.slice x2 x2n x2c,.int .u64 0].toArray) w:=by kernel_rfl
instance C25:Sv.Fnc Tryz.prog 25 Tryz.f25 79:={}
theorem Bd183_0_1_2 (x0:Int) (x1:Int) (x2:Int) (w:World):(Instr.build 183 [(0,.int .i64 x0),(1,.int .u64 x1),(2,.int .u64 x2)].toArray).run Tryz.prog w= .ok (.agg [.int .i64 x0,.int .u64 x1,.int .u64 x2].toArray) w:=by kernel_rfl
theorem Bs24_1_0 (x00 x01 x02:Value) (w:World):(Instr.buildSlice 24 1 [(0,.agg #[x00,x01,x02])].toArray).run Tryz.prog w= .ok (.slice (some ⟨w.heap.size,0,none⟩) 1 1) (w.alloc (.cells [x00,x01,x02].toArray 183)):=by kernel_rfl
instance C64:Sv.Fnc Tryz.prog 64 Tryz.f64 9:={}
instance C66:Sv.Fnc Tryz.prog 66 Tryz.f66 9:={}
instance C111:Sv.Fnc Tryz.prog 111 Tryz.f111 9:={}
instance F119_0:Sv.Fld Tryz.prog 119 0 0:={}
instance F119_1:Sv.Fld Tryz.prog 119 1 1:={}
instance C65:Sv.Fnc Tryz.prog 65 Tryz.f65 18:={}
instance I119:Sv.Inf Tryz.prog 119 (.agg #[.int .u64 0,.int .u64 0]) 2 16:={}
instance C68:Sv.Fnc Tryz.prog 68 Tryz.f68 17:={}
instance C113:Sv.Fnc Tryz.prog 113 Tryz.f113 15:={}
instance I211:Sv.Inf Tryz.prog 211 (.pointer none) 1 8:={}
instance F210_0:Sv.Fld Tryz.prog 210 0 0:={}
instance C112:Sv.Fnc Tryz.prog 112 Tryz.f112 26:={}
instance C67:Sv.Fnc Tryz.prog 67 Tryz.f67 18:={}
instance F106_0:Sv.Fld Tryz.prog 106 0 0:={}
instance I102:Sv.Inf Tryz.prog 102 (.slice none 0 0) 1 24:={}
instance C8:Sv.Fnc Tryz.prog 8 Tryz.f8 3:={}
theorem Bd106_ (w:World):(Instr.build 106 [].toArray).run Tryz.prog w= .ok (.agg [.slice none 0 0,.slice none 0 0,.slice none 0 0,.int .i64 0,.bool false,.bool false,.bool false,.bool false,.bool false,.bool false,.bool false,.bool false,.bool false,.bool false,.bool false,.bool false,.bool false,.bool false,.bool false,.bool false,.bool false,.bool false,.bool false,.bool false,.bool false,.bool false,.bool false,.bool false,.bool false,.bool false,.bool false,.bool false,.bool false,.bool false,.bool false,.bool false,.bool false,.bool false,.bool false,.bool false,.bool false,.bool false,.bool false,.bool false,.bool false,.bool false,.bool false,.bool false,.bool false,.bool false,.bool false,.bool false,.bool false,.bool false,.bool false,.bool false,.bool false,.bool false,.bool false,.bool false,.bool false,.bool false,.bool false,.bool false,.bool false,.bool false,.bool false,.bool false,.bool false,.bool false,.bool false,.bool false,.bool false,.bool false,.bool false,.bool false,.bool false,.bool false,.bool false,.bool false,.bool false,.bool false,.bool false,.bool false,.bool false,.bool false,.bool false,.bool false,.bool false,.bool false,.bool false,.bool false,.bool false,.bool false,.bool false,.bool false,.bool false,.bool false,.bool false,.bool false,.bool false,.bool false,.bool false,.bool false,.bool false,.bool false,.bool false,.bool false,.bool false,.bool false,.bool false,.bool false,.bool false,.bool false,.bool false,.bool false,.bool false,.bool false,.bool false,.bool false,.bool false,.bool false,.bool false,.bool false,.bool false,.bool false,.bool false,.bool false,.bool false,.bool false,.bool false,.bool false,.bool false,.bool false,.bool false,.bool false,.bool false,.bool false,.bool false,.bool false,.bool false,.bool false,.bool false,.bool false,.bool false,.bool false,.bool false,.bool false,.bool false,.bool false,.bool false,.bool false,.bool false,.bool false,.bool false,.bool false,.bool false,.bool false,.bool false,.bool false,.bool false,.bool false,.bool false,.bool false,.bool false,.bool false,.bool false,.bool false,.bool false,.bool false,.bool false,.bool false,.bool false,.bool false,.bool false,.bool false,.bool false,.bool false,.bool false,.bool false,.bool false,.bool false,.bool false,.bool false,.bool false,.bool false,.bool false,.bool false,.bool false,.bool false,.bool false,.bool false,.bool false,.bool false,.bool false,.bool false,.bool false,.bool false,.bool false,.bool false,.bool false,.bool false,.bool false,.bool false,.bool false,.bool false,.bool false,.bool false,.bool false,.bool false,.bool false,.bool false,.bool false,.bool false,.bool false,.bool false,.bool false,.bool false,.bool false,.bool false,.bool false,.bool false,.bool false,.bool false,.bool false,.bool false,.bool false,.bool false,.bool false,.bool false,.bool false,.bool false,.bool false,.bool false,.bool false,.bool false,.bool false,.bool false,.bool false,.bool false,.bool false,.bool false,.bool false,.bool false,.bool false,.bool false,.bool false,.bool false,.bool false,.bool false,.bool false,.bool false,.bool false,.bool false,.bool false,.bool false,.bool false,.bool false,.bool false,.bool false,.slice none 0 0,.slice none 0 0].toArray) w:=by kernel_rfl
instance C32:Sv.Fnc Tryz.prog 32 Tryz.f32 16:={}
instance F106_2:Sv.Fld Tryz.prog 106 2 4:={}
theorem X49a:(Tryz.f114.name== "runtime.NumGoroutine")=false:=by kernel_rfl
theorem X49b:Tryz.f114.body.isNone=true:=by kernel_rfl
theorem X49c:Extern.findNext Tryz.f114=none:=by kernel_rfl
theorem X49d:Extern.find Tryz.f114=some (Extern.SlicesOverlaps.overlaps #[102,102] #[4]):=by kernel_rfl
instance C69:Sv.Fnc Tryz.prog 69 Tryz.f69 95:={}
instance C30:Sv.Fnc Tryz.prog 30 Tryz.f30 83:={}
instance F106_1:Sv.Fld Tryz.prog 106 1 3:={}
theorem Bd210_0_1 (x00 x01:Value) (x1:Int) (w:World):(Instr.build 210 [(0,.agg #[x00,x01]),(1,.int .i64 x1)].toArray).run Tryz.prog w= .ok (.agg [x00,x01,.int .i64 x1,.slice none 0 0].toArray) w:=by kernel_rfl
theorem Bs102_1_0 (x0:Option Addr) (w:World):(Instr.buildSlice 102 1 [(0,.pointer x0)].toArray).run Tryz.prog w= .ok (.slice (some ⟨w.heap.size,0,none⟩) 1 1) (w.alloc (.cells [.pointer x0].toArray 211)):=by kernel_rfl
theorem Bd119_0_1 (x0:Int) (x1:Int) (w:World):(Instr.build 119 [(0,.int .u64 x0),(1,.int .u64 x1)].toArray).run Tryz.prog w= .ok (.agg [.int .u64 x0,.int .u64 x1].toArray) w:=by kernel_rfl
instance C72:Sv.Fnc Tryz.prog 72 Tryz.f72 9:={}
instance C73:Sv.Fnc Tryz.prog 73 Tryz.f73 20:={}
instance C116:Sv.Fnc Tryz.prog 116 Tryz.f116 18:={}
instance C74:Sv.Fnc Tryz.prog 74 Tryz.f74 15:={}
instance F59_0:Sv.Fld Tryz.prog 59 0 0:={}
instance I215:Sv.Inf Tryz.prog 215 (.agg #[.int .i64 0,.int .u64 0,.int .u64 0,.int .i64 0,.slice none 0 0]) 5 56:={}
instance F215_0:Sv.Fld Tryz.prog 215 0 0:={}
instance F215_1:Sv.Fld Tryz.prog 215 1 1:={}
instance C36:Sv.Fnc Tryz.prog 36 Tryz.f36 19:={}
instance F59_1:Sv.Fld Tryz.prog 59 1 1:={}
instance I54:Sv.Inf Tryz.prog 54 (.slice none 0 0) 1 24:={}
instance C34:Sv.Fnc Tryz.prog 34 Tryz.f34 79:={}
theorem Bd215_0_1_2_3 (x0:Int) (x10 x11:Value) (x2:Int) (x3:Option Addr) (x3n x3c:Nat) (w:World):(Instr.build 215 [(0,.int .i64 x0),(1,.agg #[x10,x11]),(2,.int .i64 x2),(3,.slice x3 x3n x3c)].toArray).run Tryz.prog w= .ok (.agg [.int .i64 x0,x10,x11,.int .i64 x2,.slice x3 x3n x3c].toArray) w:=by kernel_rfl
theorem Bs54_1_0 (x00 x01 x02 x03 x04:Value) (w:World):(Instr.buildSlice 54 1 [(0,.agg #[x00,x01,x02,x03,x04])].toArray).run Tryz.prog w= .ok (.slice (some ⟨w.heap.size,0,none⟩) 1 1) (w.alloc (.cells [x00,x01,x02,x03,x04].toArray 215)):=by kernel_rfl
instance U3:Sv.UN Tryz.prog 3:={}
instance U4:Sv.UN Tryz.prog 4:={}
instance U5:Sv.UN Tryz.prog 5:={}
instance U9:Sv.UN Tryz.prog 9:={}
instance Z9:Sv.UStr Tryz.prog 9:={}
instance U22:Sv.UN Tryz.prog 22:={}
instance S22:Sv.US Tryz.prog 22 41:={}
instance S23:Sv.US Tryz.prog 23 66:={}
instance U24:Sv.UN Tryz.prog 24:={}
instance S24:Sv.US Tryz.prog 24 183:={}
instance U25:Sv.UN Tryz.prog 25:={}
instance S25:Sv.US Tryz.prog 25 37:={}
instance U29:Sv.UA Tryz.prog 29:={}
instance U32:Sv.UN Tryz.prog 32:={}
instance S32:Sv.US Tryz.prog 32 3:={}
instance U33:Sv.UA Tryz.prog 33:={}
instance U36:Sv.UA Tryz.prog 36:={}
instance U37:Sv.UN Tryz.prog 37:={}
instance U39:Sv.UA Tryz.prog 39:={}
instance U41:Sv.UA Tryz.prog 41:={}
instance U54:Sv.UN Tryz.prog 54:={}
instance S54:Sv.US Tryz.prog 54 215:={}
instance U63:Sv.UN Tryz.prog 63:={}
instance S63:Sv.US Tryz.prog 63 9:={}
instance U64:Sv.UN Tryz.prog 64:={}
instance S64:Sv.US Tryz.prog 64 191:={}
instance U66:Sv.UA Tryz.prog 66:={}
instance U97:Sv.UN Tryz.prog 97:={}
instance S97:Sv.US Tryz.prog 97 36:={}
instance U102:Sv.UN Tryz.prog 102:={}
instance S102:Sv.US Tryz.prog 102 211:={}
instance U109:Sv.UN Tryz.prog 109:={}
instance S109:Sv.US Tryz.prog 109 116:={}
instance U116:Sv.UA Tryz.prog 116:={}
instance U119:Sv.UA Tryz.prog 119:={}
instance U123:Sv.UN Tryz.prog 123:={}
instance S123:Sv.US Tryz.prog 123 4:={}
instance S124:Sv.US Tryz.prog 124 63:={}
instance U127:Sv.UN Tryz.prog 127:={}
instance S127:Sv.US Tryz.prog 127 134:={}
instance U128:Sv.UN Tryz.prog 128:={}
instance S128:Sv.US Tryz.prog 128 138:={}
instance S131:Sv.US Tryz.prog 131 39:={}
instance U138:Sv.UA Tryz.prog 138:={}
instance U183:Sv.UA Tryz.prog 183:={}
instance U188:Sv.UA Tryz.prog 188:={}
instance U189:Sv.UN Tryz.prog 189:={}
instance S189:Sv.US Tryz.prog 189 193:={}
instance U191:Sv.UA Tryz.prog 191:={}
instance U193:Sv.UA Tryz.prog 193:={}
instance U211:Sv.UN Tryz.prog 211:={}
instance U217:Sv.UN Tryz.prog 217:={}
instance S217:Sv.US Tryz.prog 217 227:={}
instance S221:Sv.US Tryz.prog 221 292:={}
instance U227:Sv.UA Tryz.prog 227:={}
instance U279:Sv.UN Tryz.prog 279:={}
instance S279:Sv.US Tryz.prog 279 283:={}
instance U292:Sv.UA Tryz.prog 292:={}
instance S303:Sv.US Tryz.prog 303 123:={}
instance S330:Sv.US Tryz.prog 330 32:={}
instance U356:Sv.UN Tryz.prog 356:={}
instance S356:Sv.US Tryz.prog 356 370:={}
instance U370:Sv.UA Tryz.prog 370:={}
instance C62:Sv.Fnc Tryz.prog 62 Tryz.f62 22:={}
instance C156:Sv.Fnc Tryz.prog 156 Tryz.f156 55:={}
instance C124:Sv.Fnc Tryz.prog 124 Tryz.f124 30:={}
theorem EG138eql (x y:Operand) (xs ys:Array Value) (w:World):(eqGuard .eql 138 x y (.agg xs) (.agg ys)).run Tryz.prog w= .ok () w:=by kernel_rfl
theorem EQ138eql (x0:Int) (x1:Int) (y0:Int) (y1:Int) (w:World):(binOp .eql 138 (.agg #[.int .i64 x0,.int .i64 x1]) (.agg #[.int .i64 y0,.int .i64 y1])).run Tryz.prog w= .ok (.bool (decide (x0=y0∧x1=y1))) w:=
 Sv.run_eql_of (p:=x0=y0∧x1=y1) (fun _ _=>by simp) (fun _=>by simp) (fun _ _=>by simp) (fun _ _ _=>by simp) (fun w=>SEQ138 9998 x0 y0 x1 y1 w) w
instance C125:Sv.Fnc Tryz.prog 125 Tryz.f125 80:={}
instance I123:Sv.Inf Tryz.prog 123 (.slice none 0 0) 1 24:={}
instance C83:Sv.Fnc Tryz.prog 83 Tryz.f83 65:={}
instance C82:Sv.Fnc Tryz.prog 82 Tryz.f82 29:={}
instance C42:Sv.Fnc Tryz.prog 42 Tryz.f42 22:={}
instance C171:Sv.Fnc Tryz.prog 171 Tryz.f171 20:={}
instance C155:Sv.Fnc Tryz.prog 155 Tryz.f155 20:={}
instance C202:Sv.Fnc Tryz.prog 202 Tryz.f202 6:={}
instance C188:Sv.Fnc Tryz.prog 188 Tryz.f188 17:={}
instance C172:Sv.Fnc Tryz.prog 172 Tryz.f172 21:={}
instance C147:Sv.Fnc Tryz.prog 147 Tryz.f147 17:={}
instance F36_2:Sv.Fld Tryz.prog 36 2 5:={}
instance I33:Sv.Inf Tryz.prog 33 (.agg #[.slice none 0 0,.slice none 0 0,.slice none 0 0,.slice none 0 0]) 4 96:={}
instance C146:Sv.Fnc Tryz.prog 146 Tryz.f146 35:={}
instance F36_1:Sv.Fld Tryz.prog 36 1 1:={}
instance C107:Sv.Fnc Tryz.prog 107 Tryz.f107 64:={}
instance I36:Sv.Inf Tryz.prog 36 (.agg #[.int .i64 0,.slice none 0 0,.slice none 0 0,.slice none 0 0,.slice none 0 0,.int .i64 0,.int .i64 0,.int .i64 0,.int .i64 0,.int .i64 0,.int .i64 0,.int .i64 0,.int .i64 0]) 13 168:={}
instance F36_0:Sv.Fld Tryz.prog 36 0 0:={}
instance F36_4:Sv.Fld Tryz.prog 36 4 12:={}
instance F36_3:Sv.Fld Tryz.prog 36 3 11:={}
instance C123:Sv.Fnc Tryz.prog 123 Tryz.f123 115:={}
instance C80:Sv.Fnc Tryz.prog 80 Tryz.f80 31:={}
instance C60:Sv.Fnc Tryz.prog 60 Tryz.f60 70:={}
theorem Bd278_2 (x2:Option Addr) (w:World):(Instr.build 278 [(2,.pointer x2)].toArray).run Tryz.prog w= .ok (.agg [.slice none 0 0,.slice none 0 0,.pointer x2,.int .u64 0].toArray) w:=by kernel_rfl
instance F278_0:Sv.Fld Tryz.prog 278 0 0:={}
theorem Bs97_1_0 (x00 x01 x02 x03 x04 x05 x06 x07 x08 x09 x010 x011 x012:Value) (w:World):(Instr.buildSlice 97 1 [(0,.agg #[x00,x01,x02,x03,x04,x05,x06,x07,x08,x09,x010,x011,x012])].toArray).run Tryz.prog w= .ok (.slice (some ⟨w.heap.size,0,none⟩) 1 1) (w.alloc (.cells [x00,x01,x02,x03,x04,x05,x06,x07,x08,x09,x010,x011,x012].toArray 36)):=by kernel_rfl
instance I97:Sv.Inf Tryz.prog 97 (.slice none 0 0) 1 24:={}
instance F278_1:Sv.Fld Tryz.prog 278 1 1:={}
instance C39:Sv.Fnc Tryz.prog 39 Tryz.f39 46:={}
theorem Bd236_0_1 (x0:Option Addr) (x0n x0c:Nat) (x1:Option Addr) (w:World):(Instr.build 236 [(0,.slice x0 x0n x0c),(1,.pointer x1)].toArray).run Tryz.prog w= .ok (.agg [.slice x0 x0n x0c,.pointer x1,.slice none 0 0,.int .u64 0].toArray) w:=by kernel_rfl
instance F236_2:Sv.Fld Tryz.prog 236 2 2:={}
instance C31:Sv.Fnc Tryz.prog 31 Tryz.f31 5:={}
instance C35:Sv.Fnc Tryz.prog 35 Tryz.f35 5:={}
instance C144:Sv.Fnc Tryz.prog 144 Tryz.f144 10:={}
instance C70:Sv.Fnc Tryz.prog 70 Tryz.f70 16:={}
instance C105:Sv.Fnc Tryz.prog 105 Tryz.f105 6:={}
instance C142:Sv.Fnc Tryz.prog 142 Tryz.f142 19:={}
instance C104:Sv.Fnc Tryz.prog 104 Tryz.f104 9:={}
instance C58:Sv.Fnc Tryz.prog 58 Tryz.f58 6:={}
instance C71:Sv.Fnc Tryz.prog 71 Tryz.f71 53:={}
instance C106:Sv.Fnc Tryz.prog 106 Tryz.f106 51:={}
instance C63:Sv.Fnc Tryz.prog 63 Tryz.f63 44:={}
instance I41:Sv.Inf Tryz.prog 41 (.agg #[.int .i64 0,.int .i64 0,.slice none 0 0,.slice none 0 0,.slice none 0 0,.slice none 0 0,.int .i64 0,.int .i64 0,.int .i64 0,.int .i64 0,.int .i64 0,.int .i64 0,.int .i64 0,.int .i64 0,.int .i64 0,.slice none 0 0,.int .u64 0,.string (Sv.bs [])]) 18 232:={}
instance F41_2:Sv.Fld Tryz.prog 41 2 14:={}
instance F39_0:Sv.Fld Tryz.prog 39 0 0:={}
instance F39_1:Sv.Fld Tryz.prog 39 1 1:={}
instance C11:Sv.Fnc Tryz.prog 11 Tryz.f11 26:={}
instance C55:Sv.Fnc Tryz.prog 55 Tryz.f55 37:={}
instance C28:Sv.Fnc Tryz.prog 28 Tryz.f28 14:={}
instance C38:Sv.Fnc Tryz.prog 38 Tryz.f38 13:={}
theorem Bd230_0_2 (x00 x01 x02:Value) (x2:Int) (w:World):(Instr.build 230 [(0,.agg #[x00,x01,x02]),(2,.int .i64 x2)].toArray).run Tryz.prog w= .ok (.agg [x00,x01,x02,.int .i64 0,.int .i64 x2,.string (Sv.bs [])].toArray) w:=by kernel_rfl
instance C4:Sv.Fnc Tryz.prog 4 Tryz.f4 82:={}
instance F41_1:Sv.Fld Tryz.prog 41 1 1:={}
instance F41_3:Sv.Fld Tryz.prog 41 3 17:={}
instance C12:Sv.Fnc Tryz.prog 12 Tryz.f12 8:={}
instance F113_4:Sv.Fld Tryz.prog 113 4 4:={}
instance C13:Sv.Fnc Tryz.prog 13 Tryz.f13 19:={}
instance F130_0:Sv.Fld Tryz.prog 130 0 0:={}
instance F130_10:Sv.Fld Tryz.prog 130 10 10:={}
instance C40:Sv.Fnc Tryz.prog 40 Tryz.f40 116:={}
theorem Bd238_0_2_3_4 (x0:Option Addr) (x0n x0c:Nat) (x2:Option Addr) (x2n x2c:Nat) (x3:Option Addr) (x3n x3c:Nat) (x4:Option Addr) (x4n x4c:Nat) (w:World):(Instr.build 238 [(0,.slice x0 x0n x0c),(2,.slice x2 x2n x2c),(3,.slice x3 x3n x3c),(4,.slice x4 x4n x4c)].toArray).run Tryz.prog w= .ok (.agg [.slice x0 x0n x0c,.slice none 0 0,.slice x2 x2n x2c,.slice x3 x3n x3c,.slice x4 x4n x4c,.int .u64 0].toArray) w:=by kernel_rfl
instance I39:Sv.Inf Tryz.prog 39 (.agg #[.int .i64 0,.slice none 0 0,.int .u64 0]) 3 40:={}
instance F39_2:Sv.Fld Tryz.prog 39 2 2:={}
instance F238_1:Sv.Fld Tryz.prog 238 1 1:={}
instance I128:Sv.Inf Tryz.prog 128 (.slice none 0 0) 1 24:={}
instance C61:Sv.Fnc Tryz.prog 61 Tryz.f61 177:={}
instance I283:Sv.Inf Tryz.prog 283 (.agg #[.slice none 0 0,.slice none 0 0,.int .u64 0,.bool false,.int .i64 0,.int .u64 0]) 6 80:={}
theorem Bd281_0_1 (x0:Option Addr) (x0n x0c:Nat) (x1:Option Addr) (x1n x1c:Nat) (w:World):(Instr.build 281 [(0,.slice x0 x0n x0c),(1,.slice x1 x1n x1c)].toArray).run Tryz.prog w= .ok (.agg [.slice x0 x0n x0c,.slice x1 x1n x1c,.int .u64 0].toArray) w:=by kernel_rfl
instance F281_0:Sv.Fld Tryz.prog 281 0 0:={}
instance F283_2:Sv.Fld Tryz.prog 283 2 2:={}
instance F283_0:Sv.Fld Tryz.prog 283 0 0:={}
instance F283_1:Sv.Fld Tryz.prog 283 1 1:={}
instance I116:Sv.Inf Tryz.prog 116 (.agg #[.int .i64 0,.int .i64 0,.slice none 0 0,.slice none 0 0,.slice none 0 0,.slice none 0 0,.int .i64 0,.int .i64 0,.int .i64 0,.int .i64 0,.int .i64 0,.int .i64 0,.int .i64 0,.int .i64 0,.int .u64 0,.pointer none,.bool false,.slice none 0 0,.bool false,.int .i64 0]) 20 240:={}
instance C59:Sv.Fnc Tryz.prog 59 Tryz.f59 75:={}
instance F41_0:Sv.Fld Tryz.prog 41 0 0:={}
theorem Bd116_ (w:World):(Instr.build 116 [].toArray).run Tryz.prog w= .ok (.agg [.int .i64 0,.int .i64 0,.slice none 0 0,.slice none 0 0,.slice none 0 0,.slice none 0 0,.int .i64 0,.int .i64 0,.int .i64 0,.int .i64 0,.int .i64 0,.int .i64 0,.int .i64 0,.int .i64 0,.int .u64 0,.pointer none,.bool false,.slice none 0 0,.bool false,.int .i64 0].toArray) w:=by kernel_rfl
theorem Bd116_0_1_2_3_7 (x0:Int) (x10 x11 x12 x13 x14 x15 x16 x17 x18 x19 x110 x111 x112:Value) (x2:Int) (x3:Option Addr) (x7:Int) (w:World):(Instr.build 116 [(0,.int .i64 x0),(1,.agg #[x10,x11,x12,x13,x14,x15,x16,x17,x18,x19,x110,x111,x112]),(2,.int .u64 x2),(3,.pointer x3),(7,.int .i64 x7)].toArray).run Tryz.prog w= .ok (.agg [.int .i64 x0,x10,x11,x12,x13,x14,x15,x16,x17,x18,x19,x110,x111,x112,.int .u64 x2,.pointer x3,.bool false,.slice none 0 0,.bool false,.int .i64 x7].toArray) w:=by kernel_rfl
instance C29:Sv.Fnc Tryz.prog 29 Tryz.f29 121:={}
theorem Bd113_3 (x3:Option Addr) (w:World):(Instr.build 113 [(3,.pointer x3)].toArray).run Tryz.prog w= .ok (.agg [.slice none 0 0,.pointer none,.pointer none,.pointer x3,.slice none 0 0].toArray) w:=by kernel_rfl
instance F116_0:Sv.Fld Tryz.prog 116 0 0:={}
instance F113_0:Sv.Fld Tryz.prog 113 0 0:={}
theorem Bs109_1_0 (x00 x01 x02 x03 x04 x05 x06 x07 x08 x09 x010 x011 x012 x013 x014 x015 x016 x017 x018 x019:Value) (w:World):(Instr.buildSlice 109 1 [(0,.agg #[x00,x01,x02,x03,x04,x05,x06,x07,x08,x09,x010,x011,x012,x013,x014,x015,x016,x017,x018,x019])].toArray).run Tryz.prog w= .ok (.slice (some ⟨w.heap.size,0,none⟩) 1 1) (w.alloc (.cells [x00,x01,x02,x03,x04,x05,x06,x07,x08,x09,x010,x011,x012,x013,x014,x015,x016,x017,x018,x019].toArray 116)):=by kernel_rfl
instance I109:Sv.Inf Tryz.prog 109 (.slice none 0 0) 1 24:={}
theorem Bs131_1_0 (x00 x01 x02:Value) (w:World):(Instr.buildSlice 131 1 [(0,.agg #[x00,x01,x02])].toArray).run Tryz.prog w= .ok (.slice (some ⟨w.heap.size,0,none⟩) 1 1) (w.alloc (.cells [x00,x01,x02].toArray 39)):=by kernel_rfl
instance F113_1:Sv.Fld Tryz.prog 113 1 1:={}
instance I110:Sv.Inf Tryz.prog 110 (.pointer none) 1 8:={}
instance F113_2:Sv.Fld Tryz.prog 113 2 2:={}
instance I111:Sv.Inf Tryz.prog 111 (.pointer none) 1 8:={}
instance C9:Sv.Fnc Tryz.prog 9 Tryz.f9 50:={}
instance F116_2:Sv.Fld Tryz.prog 116 2 14:={}
instance C33:Sv.Fnc Tryz.prog 33 Tryz.f33 133:={}
instance C10:Sv.Fnc Tryz.prog 10 Tryz.f10 166:={}
theorem Bd130_0_1_2_6_7_8_9 (x0:Option Addr) (x0n x0c:Nat) (x1:Option Addr) (x1n x1c:Nat) (x2:Option Addr) (x6:Option Addr) (x6n x6c:Nat) (x7:Option Addr) (x7n x7c:Nat) (x8:Option Addr) (x8n x8c:Nat) (x9:Option Addr) (x9n x9c:Nat) (w:World):(Instr.build 130 [(0,.slice x0 x0n x0c),(1,.slice x1 x1n x1c),(2,.pointer x2),(6,.slice x6 x6n x6c),(7,.slice x7 x7n x7c),(8,.slice x8 x8n x8c),(9,.slice x9 x9n x9c)].toArray).run Tryz.prog w= .ok (.agg [.slice x0 x0n x0c,.slice x1 x1n x1c,.pointer x2,.pointer none,.pointer none,.slice none 0 0,.slice x6 x6n x6c,.slice x7 x7n x7c,.slice x8 x8n x8c,.slice x9 x9n x9c,.slice none 0 0].toArray) w:=by kernel_rfl
instance F130_9:Sv.Fld Tryz.prog 130 9 9:={}
instance F130_5:Sv.Fld Tryz.prog 130 5 5:={}
theorem Bs127_1_0 (x0:Option Addr) (w:World):(Instr.buildSlice 127 1 [(0,.pointer x0)].toArray).run Tryz.prog w= .ok (.slice (some ⟨w.heap.size,0,none⟩) 1 1) (w.alloc (.cells [.pointer x0].toArray 134)):=by kernel_rfl
instance I134:Sv.Inf Tryz.prog 134 (.pointer none) 1 8:={}
instance I127:Sv.Inf Tryz.prog 127 (.slice none 0 0) 1 24:={}
instance F130_3:Sv.Fld Tryz.prog 130 3 3:={}
instance I125:Sv.Inf Tryz.prog 125 (.pointer none) 1 8:={}
instance F130_4:Sv.Fld Tryz.prog 130 4 4:={}
instance I126:Sv.Inf Tryz.prog 126 (.pointer none) 1 8:={}
instance C26:Sv.Fnc Tryz.prog 26 Tryz.f26 88:={}
theorem Bd36_0_4_3 (x0:Int) (x4:Int) (x3:Int) (w:World):(Instr.build 36 [(0,.int .i64 x0),(4,.int .i64 x4),(3,.int .i64 x3)].toArray).run Tryz.prog w= .ok (.agg [.int .i64 x0,.slice none 0 0,.slice none 0 0,.slice none 0 0,.slice none 0 0,.int .i64 0,.int .i64 0,.int .i64 0,.int .i64 0,.int .i64 0,.int .i64 0,.int .i64 x3,.int .i64 x4].toArray) w:=by kernel_rfl
instance C27:Sv.Fnc Tryz.prog 27 Tryz.f27 75:={}
instance I29:Sv.Inf Tryz.prog 29 (.agg #[.slice none 0 0,.slice none 0 0,.slice none 0 0]) 3 72:={}
instance C6:Sv.Fnc Tryz.prog 6 Tryz.f6 169:={}
theorem Bd29_1 (x1:Option Addr) (x1n x1c:Nat) (w:World):(Instr.build 29 [(1,.slice x1 x1n x1c)].toArray).run Tryz.prog w= .ok (.agg [.slice none 0 0,.slice x1 x1n x1c,.slice none 0 0].toArray) w:=by kernel_rfl
instance F29_1:Sv.Fld Tryz.prog 29 1 1:={}
theorem Bd39_0_2 (x0:Int) (x2:Int) (w:World):(Instr.build 39 [(0,.int .i64 x0),(2,.int .u64 x2)].toArray).run Tryz.prog w= .ok (.agg [.int .i64 x0,.slice none 0 0,.int .u64 x2].toArray) w:=by kernel_rfl
theorem Bd41_0_1_2 (x0:Int) (x10 x11 x12 x13 x14 x15 x16 x17 x18 x19 x110 x111 x112:Value) (x20 x21 x22:Value) (w:World):(Instr.build 41 [(0,.int .i64 x0),(1,.agg #[x10,x11,x12,x13,x14,x15,x16,x17,x18,x19,x110,x111,x112]),(2,.agg #[x20,x21,x22])].toArray).run Tryz.prog w= .ok (.agg [.int .i64 x0,x10,x11,x12,x13,x14,x15,x16,x17,x18,x19,x110,x111,x112,x20,x21,x22,.string (Sv.bs [])].toArray) w:=by kernel_rfl
instance F29_0:Sv.Fld Tryz.prog 29 0 0:={}
theorem Bs22_1_0 (x00 x01 x02 x03 x04 x05 x06 x07 x08 x09 x010 x011 x012 x013 x014 x015 x016 x017:Value) (w:World):(Instr.buildSlice 22 1 [(0,.agg #[x00,x01,x02,x03,x04,x05,x06,x07,x08,x09,x010,x011,x012,x013,x014,x015,x016,x017])].toArray).run Tryz.prog w= .ok (.slice (some ⟨w.heap.size,0,none⟩) 1 1) (w.alloc (.cells [x00,x01,x02,x03,x04,x05,x06,x07,x08,x09,x010,x011,x012,x013,x014,x015,x016,x017].toArray 41)):=by kernel_rfl
instance I22:Sv.Inf Tryz.prog 22 (.slice none 0 0) 1 24:={}
instance F29_2:Sv.Fld Tryz.prog 29 2 2:={}
theorem Bs25_1_0 (x0:Int) (w:World):(Instr.buildSlice 25 1 [(0,.int .u64 x0)].toArray).run Tryz.prog w= .ok (.slice (some ⟨w.heap.size,0,none⟩) 1 1) (w.alloc (.cells [.int .u64 x0].toArray 37)):=by kernel_rfl
instance I25:Sv.Inf Tryz.prog 25 (.slice none 0 0) 1 24:={}
theorem Ba43_2 (x00 x01 x02:Value) (x10 x11 x12:Value) (w:World):(Instr.build 43 [(0,.agg #[x00,x01,x02]),(1,.agg #[x10,x11,x12])].toArray).run Tryz.prog w= .ok (.agg [x00,x01,x02,x10,x11,x12].toArray) w:=by kernel_rfl
instance C3:Sv.Fnc Tryz.prog 3 Tryz.f3 195:={}
instance C5:Sv.Fnc Tryz.prog 5 Tryz.f5 99:={}
theorem Bd29_0_1_2 (x0:Option Addr) (x0n x0c:Nat) (x1:Option Addr) (x1n x1c:Nat) (x2:Option Addr) (x2n x2c:Nat) (w:World):(Instr.build 29 [(0,.slice x0 x0n x0c),(1,.slice x1 x1n x1c),(2,.slice x2 x2n x2c)].toArray).run Tryz.prog w= .ok (.agg [.slice x0 x0n x0c,.slice x1 x1n x1c,.slice x2 x2n x2c].toArray) w:=by kernel_rfl
end Go.Proofs.YtkofjhglgoojiaaGreatDoor
