/-
  Joined.
-/
import Derived.Test.YtfmcioghekppjaaGreatDoorP01
import Derived.Test.YtfmcioghekppjaaGreatDoorProg
set_option linter.unusedSimpArgs false
set_option linter.unusedVariables false
namespace Go.Proofs.YtfmcioghekppjaaGreatDoor
open Go Go.Sv Tryz
instance C216:Fnc prog 216 f216 9:={}
instance C199:Fnc prog 199 f199 25:={}
instance C156:Fnc prog 156 f156 29:={}
instance C204:Fnc prog 204 f204 27:={}
instance C152:Fnc prog 152 f152 55:={}
instance C118:Fnc prog 118 f118 25:={}
instance I9:Inf prog 9 (.string (bs [])) 1 16:={}
instance C153:Fnc prog 153 f153 83:={}
instance F190_0:Fld prog 190 0 0:={}
instance F190_4:Fld prog 190 4 7:={}
instance F190_1:Fld prog 190 1 1:={}
instance F190_3:Fld prog 190 3 6:={}
instance F190_2:Fld prog 190 2 2:={}
instance F187_0:Fld prog 187 0 0:={}
instance F187_1:Fld prog 187 1 1:={}
instance F187_2:Fld prog 187 2 2:={}
instance F187_3:Fld prog 187 3 3:={}
instance I192:Inf prog 192 (.agg #[.bool false,.int .u64 0,.int .u64 0]) 3 24:={}
instance F192_0:Fld prog 192 0 0:={}
instance F192_2:Fld prog 192 2 2:={}
instance C108:Fnc prog 108 f108 81:={}
instance F66_0:Fld prog 66 0 0:={}
instance F66_1:Fld prog 66 1 1:={}
instance F66_2:Fld prog 66 2 2:={}
instance I190:Inf prog 190 (.agg #[.int .i64 0,.string (bs []),.bool false,.int .u64 0,.int .u64 0,.int .u64 0,.slice none 0 0,.int .i64 0]) 8 88:={}
instance C222:Fnc prog 222 f222 11:={}
instance C229:Fnc prog 229 f229 19:={}
instance C221:Fnc prog 221 f221 9:={}
instance C205:Fnc prog 205 f205 51:={}
instance I187:Inf prog 187 (.agg #[.bool false,.int .u64 0,.int .u64 0,.int .u64 0]) 4 32:={}
theorem BaL (w:World):(Instr.build 187 [].toArray).run prog w= .ok (.agg [.bool false,.int .u64 0,.int .u64 0,.int .u64 0].toArray) w:=by kernel_rfl
theorem kLr (x y:Operand) (xs ys:Array Value) (w:World):(eqGuard .neq 187 x y (.agg xs) (.agg ys)).run prog w= .ok () w:=by kernel_rfl
theorem kSh:prog.stoodInHeld 187=false:=by kernel_rfl
theorem kRE (d:Nat) (x0:Bool) (y0:Bool) (x1:Int) (y1:Int) (x2:Int) (y2:Int) (x3:Int) (y3:Int) (w:World):(Op.equalIn (d+2) 187 (.agg #[.bool x0,.int .u64 x1,.int .u64 x2,.int .u64 x3]) (.agg #[.bool y0,.int .u64 y1,.int .u64 y2,.int .u64 y3])).run prog w= .ok (decide (x0=y0∧x1=y1∧x2=y2∧x3=y3)) w:=by
 have p0: ∀w,(part 4 #[.bool x0,.int .u64 x1,.int .u64 x2,.int .u64 x3] 0).run prog w= .ok (.bool x0) w:=fun w=>by kernel_rfl
 have q0: ∀w,(part 4 #[.bool y0,.int .u64 y1,.int .u64 y2,.int .u64 y3] 0).run prog w= .ok (.bool y0) w:=fun w=>by kernel_rfl
 have p1: ∀w,(part 41 #[.bool x0,.int .u64 x1,.int .u64 x2,.int .u64 x3] 1).run prog w= .ok (.int .u64 x1) w:=fun w=>by kernel_rfl
 have q1: ∀w,(part 41 #[.bool y0,.int .u64 y1,.int .u64 y2,.int .u64 y3] 1).run prog w= .ok (.int .u64 y1) w:=fun w=>by kernel_rfl
 have p2: ∀w,(part 41 #[.bool x0,.int .u64 x1,.int .u64 x2,.int .u64 x3] 2).run prog w= .ok (.int .u64 x2) w:=fun w=>by kernel_rfl
 have q2: ∀w,(part 41 #[.bool y0,.int .u64 y1,.int .u64 y2,.int .u64 y3] 2).run prog w= .ok (.int .u64 y2) w:=fun w=>by kernel_rfl
 have p3: ∀w,(part 41 #[.bool x0,.int .u64 x1,.int .u64 x2,.int .u64 x3] 3).run prog w= .ok (.int .u64 x3) w:=fun w=>by kernel_rfl
 have q3: ∀w,(part 41 #[.bool y0,.int .u64 y1,.int .u64 y2,.int .u64 y3] 3).run prog w= .ok (.int .u64 y3) w:=fun w=>by kernel_rfl
 rw[Op.equalIn];simp only[Sem.run_bind,run_underlying underlying187,Result.andThen_ok];simp[kSh,p0,q0,p1,q1,p2,q2,p3,q3,kFc d underlying4,kCD d underlying41]
 (repeat' split)<;>simp_all
theorem kLs (x0:Bool) (x1:Int) (x2:Int) (x3:Int) (y0:Bool) (y1:Int) (y2:Int) (y3:Int) (w:World):(binOp .neq 187 (.agg #[.bool x0,.int .u64 x1,.int .u64 x2,.int .u64 x3]) (.agg #[.bool y0,.int .u64 y1,.int .u64 y2,.int .u64 y3])).run prog w= .ok (.bool (decide (¬(x0=y0∧x1=y1∧x2=y2∧x3=y3)))) w:=
 kEN (p:=x0=y0∧x1=y1∧x2=y2∧x3=y3) (fun _ _=>by simp) (fun _=>by simp) (fun _ _=>by simp) (fun _ _ _=>by simp) (fun w=>kRE 9998 x0 y0 x1 y1 x2 y2 x3 y3 w) w
instance I4:Inf prog 4 (.bool false) 1 1:={}
instance C190:Fnc prog 190 f190 21:={}
instance C191:Fnc prog 191 f191 66:={}
theorem X99a:(f241.name== "runtime.NumGoroutine")=false:=by kernel_rfl
theorem X99b:f241.body.isNone=true:=by kernel_rfl
theorem X99c:Extern.findNext f241=none:=by kernel_rfl
theorem X99d:Extern.find f241=some Extern.BytealgIndexByte.indexByte:=by kernel_rfl
instance C231:Fnc prog 231 f231 8:={}
instance C226:Fnc prog 226 f226 143:={}
instance C213:Fnc prog 213 f213 8:={}
instance C214:Fnc prog 214 f214 23:={}
instance C197:Fnc prog 197 f197 13:={}
instance C215:Fnc prog 215 f215 18:={}
instance C198:Fnc prog 198 f198 8:={}
instance I390:Inf prog 390 (.agg #[.int .i64 0,.string (bs []),.int .u64 0]) 3 32:={}
instance C200:Fnc prog 200 f200 46:={}
theorem BaH (x0:Int) (x1:ByteArray) (w:World):(Instr.build 390 [(0,.int .i64 x0),(1,.string x1)].toArray).run prog w= .ok (.agg [.int .i64 x0,.string x1,.int .u64 0].toArray) w:=by kernel_rfl
theorem Ba2 (w:World):(Instr.build 390 [].toArray).run prog w= .ok (.agg [.int .i64 0,.string (bs []),.int .u64 0].toArray) w:=by kernel_rfl
instance C217:Fnc prog 217 f217 26:={}
theorem BaU (x0:Int) (x2:Int) (w:World):(Instr.build 390 [(0,.int .i64 x0),(2,.int .u64 x2)].toArray).run prog w= .ok (.agg [.int .i64 x0,.string (bs []),.int .u64 x2].toArray) w:=by kernel_rfl
instance C188:Fnc prog 188 f188 98:={}
theorem BaA (x00 x01 x02:Value) (w:World):(Instr.buildSlice 379 1 [(0,.agg #[x00,x01,x02])].toArray).run prog w= .ok (.slice (some ⟨w.heap.size,0,none⟩) 1 1) (w.alloc (.cells [x00,x01,x02].toArray 390)):=by kernel_rfl
instance C202:Fnc prog 202 f202 13:={}
instance F396_1:Fld prog 396 1 1:={}
instance F396_0:Fld prog 396 0 0:={}
instance C201:Fnc prog 201 f201 39:={}
instance F390_0:Fld prog 390 0 0:={}
instance I3:Inf prog 3 (.int .i64 0) 1 8:={}
instance F390_1:Fld prog 390 1 1:={}
instance C218:Fnc prog 218 f218 46:={}
instance I41:Inf prog 41 (.int .u64 0) 1 8:={}
instance C219:Fnc prog 219 f219 41:={}
instance F390_2:Fld prog 390 2 2:={}
instance C220:Fnc prog 220 f220 29:={}
instance F192_1:Fld prog 192 1 1:={}
instance C203:Fnc prog 203 f203 89:={}
theorem BaD (x00 x01 x02:Value) (w:World):(Instr.buildSlice 188 1 [(0,.agg #[x00,x01,x02])].toArray).run prog w= .ok (.slice (some ⟨w.heap.size,0,none⟩) 1 1) (w.alloc (.cells [x00,x01,x02].toArray 192)):=by kernel_rfl
instance I188:Inf prog 188 (.slice none 0 0) 1 24:={}
instance C189:Fnc prog 189 f189 120:={}
theorem Baj (x0:Option Addr) (x0n x0c:Nat) (w:World):(Instr.build 396 [(0,.slice x0 x0n x0c)].toArray).run prog w= .ok (.agg [.slice x0 x0n x0c,.int .i64 0].toArray) w:=by kernel_rfl
instance I396:Inf prog 396 (.agg #[.slice none 0 0,.int .i64 0]) 2 32:={}
instance F375_1:Fld prog 375 1 3:={}
instance F375_0:Fld prog 375 0 0:={}
theorem Ba5 (x0:ByteArray) (w:World):(Instr.buildSlice 63 1 [(0,.string x0)].toArray).run prog w= .ok (.slice (some ⟨w.heap.size,0,none⟩) 1 1) (w.alloc (.cells [.string x0].toArray 9)):=by kernel_rfl
instance I63:Inf prog 63 (.slice none 0 0) 1 24:={}
theorem Ba7 (x00 x01 x02 x03 x04 x05 x06 x07:Value) (w:World):(Instr.buildSlice 64 1 [(0,.agg #[x00,x01,x02,x03,x04,x05,x06,x07])].toArray).run prog w= .ok (.slice (some ⟨w.heap.size,0,none⟩) 1 1) (w.alloc (.cells [x00,x01,x02,x03,x04,x05,x06,x07].toArray 190)):=by kernel_rfl
instance I64:Inf prog 64 (.slice none 0 0) 1 24:={}
instance F375_2:Fld prog 375 2 4:={}
instance C211:Fnc prog 211 f211 52:={}
instance C196:Fnc prog 196 f196 8:={}
instance C187:Fnc prog 187 f187 8:={}
instance I66:Inf prog 66 (.agg #[.string (bs []),.slice none 0 0,.slice none 0 0]) 3 64:={}
instance C165:Fnc prog 165 f165 93:={}
theorem T165:f165.ntmps=93:=by kernel_rfl
instance I45:Inf prog 45 (.int .i64 0) 1 8:={}
instance I375:Inf prog 375 (.agg #[.string (bs []),.slice none 0 0,.slice none 0 0,.bool false,.slice none 0 0]) 5 96:={}
theorem Ba3 (w:World):(Instr.build 66 [].toArray).run prog w= .ok (.agg [.string (bs []),.slice none 0 0,.slice none 0 0].toArray) w:=by kernel_rfl
instance C206:Fnc prog 206 f206 8:={}
theorem Bak (w:World):(Instr.buildSlice 63 0 [].toArray).run prog w= .ok (.slice (some ⟨w.heap.size,0,none⟩) 0 0) (w.alloc (.cells [].toArray 9)):=by kernel_rfl
instance C207:Fnc prog 207 f207 8:={}
theorem Bam (w:World):(Instr.buildSlice 64 0 [].toArray).run prog w= .ok (.slice (some ⟨w.heap.size,0,none⟩) 0 0) (w.alloc (.cells [].toArray 190)):=by kernel_rfl
instance C208:Fnc prog 208 f208 8:={}
theorem Bar (w:World):(Instr.buildSlice 188 0 [].toArray).run prog w= .ok (.slice (some ⟨w.heap.size,0,none⟩) 0 0) (w.alloc (.cells [].toArray 192)):=by kernel_rfl
instance C192:Fnc prog 192 f192 32:={}
instance F232_1:Fld prog 232 1 3:={}
theorem BaQ (x1:Int) (w:World):(Instr.build 192 [(1,.int .u64 x1)].toArray).run prog w= .ok (.agg [.bool false,.int .u64 x1,.int .u64 0].toArray) w:=by kernel_rfl
instance C45:Fnc prog 45 f45 7:={}
instance C167:Fnc prog 167 f167 14:={}
theorem Bb0 (x00 x01 x02:Value) (w:World):(Instr.build 232 [(0,.agg #[x00,x01,x02])].toArray).run prog w= .ok (.agg [x00,x01,x02,.int .i64 0,.bool false,.int .i64 0].toArray) w:=by kernel_rfl
theorem Bb2 (x0:Bool) (x1:Int) (x2:Int) (w:World):(Instr.build 192 [(0,.bool x0),(1,.int .u64 x1),(2,.int .u64 x2)].toArray).run prog w= .ok (.agg [.bool x0,.int .u64 x1,.int .u64 x2].toArray) w:=by kernel_rfl
instance C29:Fnc prog 29 f29 11:={}
theorem BaW (x0:ByteArray) (x1:ByteArray) (x2:ByteArray) (x3:ByteArray) (x4:ByteArray) (x5:ByteArray) (w:World):(Instr.build 185 [(0,.string x0),(1,.string x1),(2,.string x2),(3,.string x3),(4,.string x4),(5,.string x5)].toArray).run prog w= .ok (.agg [.string x0,.string x1,.string x2,.string x3,.string x4,.string x5].toArray) w:=by kernel_rfl
instance C61:Fnc prog 61 f61 130:={}
instance I185:Inf prog 185 (.agg #[.string (bs []),.string (bs []),.string (bs []),.string (bs []),.string (bs []),.string (bs [])]) 6 96:={}
theorem Bas (x0:ByteArray) (x1:ByteArray) (x2:ByteArray) (x3:ByteArray) (w:World):(Instr.build 270 [(0,.string x0),(1,.string x1),(2,.string x2),(3,.string x3)].toArray).run prog w= .ok (.agg [.string x0,.string x1,.string x2,.string x3].toArray) w:=by kernel_rfl
instance I270:Inf prog 270 (.agg #[.string (bs []),.string (bs []),.string (bs []),.string (bs [])]) 4 64:={}
theorem Bab (x0:ByteArray) (w:World):(Instr.build 66 [(0,.string x0)].toArray).run prog w= .ok (.agg [.string x0,.slice none 0 0,.slice none 0 0].toArray) w:=by kernel_rfl
theorem BaR (x0:Int) (x1:ByteArray) (x4:Int) (w:World):(Instr.build 190 [(0,.int .i64 x0),(1,.string x1),(4,.int .i64 x4)].toArray).run prog w= .ok (.agg [.int .i64 x0,.string x1,.bool false,.int .u64 0,.int .u64 0,.int .u64 0,.slice none 0 0,.int .i64 x4].toArray) w:=by kernel_rfl
theorem BaO (x0:Bool) (x1:Int) (x2:Int) (x3:Int) (w:World):(Instr.build 187 [(0,.bool x0),(1,.int .u64 x1),(2,.int .u64 x2),(3,.int .u64 x3)].toArray).run prog w= .ok (.agg [.bool x0,.int .u64 x1,.int .u64 x2,.int .u64 x3].toArray) w:=by kernel_rfl
instance C182:Fnc prog 182 f182 51:={}
instance I336:Inf prog 336 (.agg #[.int .u8 0,.string (bs []),.int .u64 0]) 3 32:={}
instance C157:Fnc prog 157 f157 18:={}
theorem Bau (x0:Int) (x2:Int) (w:World):(Instr.build 336 [(0,.int .u8 x0),(2,.int .u64 x2)].toArray).run prog w= .ok (.agg [.int .u8 x0,.string (bs []),.int .u64 x2].toArray) w:=by kernel_rfl
theorem Bb3 (x0:Int) (x1:ByteArray) (w:World):(Instr.build 336 [(0,.int .u8 x0),(1,.string x1)].toArray).run prog w= .ok (.agg [.int .u8 x0,.string x1,.int .u64 0].toArray) w:=by kernel_rfl
instance C116:Fnc prog 116 f116 109:={}
theorem Ba1 (x00 x01 x02:Value) (w:World):(Instr.buildSlice 281 1 [(0,.agg #[x00,x01,x02])].toArray).run prog w= .ok (.slice (some ⟨w.heap.size,0,none⟩) 1 1) (w.alloc (.cells [x00,x01,x02].toArray 336)):=by kernel_rfl
theorem Ba0 (x0:Int) (w:World):(Instr.build 336 [(0,.int .u8 x0)].toArray).run prog w= .ok (.agg [.int .u8 x0,.string (bs []),.int .u64 0].toArray) w:=by kernel_rfl
instance C158:Fnc prog 158 f158 21:={}
instance F336_0:Fld prog 336 0 0:={}
theorem Bap (x0:Int) (w:World):(Instr.buildSlice 25 1 [(0,.int .u8 x0)].toArray).run prog w= .ok (.slice (some ⟨w.heap.size,0,none⟩) 1 1) (w.alloc (.cells [.int .u8 x0].toArray 5)):=by kernel_rfl
instance C183:Fnc prog 183 f183 76:={}
instance F336_1:Fld prog 336 1 1:={}
instance F336_2:Fld prog 336 2 2:={}
instance I287:Inf prog 287 (.agg #[.int .i64 0,.string (bs []),.bool false,.int .u64 0,.int .u64 0,.int .u64 0,.slice none 0 0,.int .i64 0,.string (bs [])]) 9 104:={}
instance C159:Fnc prog 159 f159 89:={}
instance F287_0:Fld prog 287 0 0:={}
instance F287_1:Fld prog 287 1 8:={}
instance C115:Fnc prog 115 f115 32:={}
instance C117:Fnc prog 117 f117 96:={}
instance F279_2:Fld prog 279 2 4:={}
instance F279_0:Fld prog 279 0 0:={}
instance F279_1:Fld prog 279 1 3:={}
theorem BaM (x00 x01 x02 x03 x04 x05 x06 x07 x08:Value) (w:World):(Instr.buildSlice 277 1 [(0,.agg #[x00,x01,x02,x03,x04,x05,x06,x07,x08])].toArray).run prog w= .ok (.slice (some ⟨w.heap.size,0,none⟩) 1 1) (w.alloc (.cells [x00,x01,x02,x03,x04,x05,x06,x07,x08].toArray 287)):=by kernel_rfl
instance I277:Inf prog 277 (.slice none 0 0) 1 24:={}
instance C67:Fnc prog 67 f67 139:={}
theorem Baq (w:World):(Instr.build 279 [].toArray).run prog w= .ok (.agg [.string (bs []),.slice none 0 0,.slice none 0 0,.slice none 0 0,.bool false].toArray) w:=by kernel_rfl
instance I5:Inf prog 5 (.int .u8 0) 1 1:={}
instance I25:Inf prog 25 (.slice none 0 0) 1 24:={}
instance C154:Fnc prog 154 f154 22:={}
instance C109:Fnc prog 109 f109 86:={}
instance C62:Fnc prog 62 f62 67:={}
instance I181:Inf prog 181 (.agg #[.int .i64 0,.int .u64 0,.int .u64 0]) 3 24:={}
instance F181_0:Fld prog 181 0 0:={}
instance F181_1:Fld prog 181 1 1:={}
instance F181_2:Fld prog 181 2 2:={}
instance C171:Fnc prog 171 f171 8:={}
theorem BaG (w:World):(Instr.buildSlice 24 0 [].toArray).run prog w= .ok (.slice (some ⟨w.heap.size,0,none⟩) 0 0) (w.alloc (.cells [].toArray 181)):=by kernel_rfl
instance C131:Fnc prog 131 f131 8:={}
theorem Bad (w:World):(Instr.buildSlice 53 0 [].toArray).run prog w= .ok (.slice (some ⟨w.heap.size,0,none⟩) 0 0) (w.alloc (.cells [].toArray 3)):=by kernel_rfl
instance C173:Fnc prog 173 f173 19:={}
theorem kSi:prog.stoodInHeld 211=false:=by kernel_rfl
theorem kNO (d:Nat) (x0:Int) (y0:Int) (x1:Int) (y1:Int) (w:World):(Op.equalIn (d+2) 211 (.agg #[.int .i64 x0,.int .i64 x1]) (.agg #[.int .i64 y0,.int .i64 y1])).run prog w= .ok (decide (x0=y0∧x1=y1)) w:=by
 have p0: ∀w,(part 3 #[.int .i64 x0,.int .i64 x1] 0).run prog w= .ok (.int .i64 x0) w:=fun w=>by kernel_rfl
 have q0: ∀w,(part 3 #[.int .i64 y0,.int .i64 y1] 0).run prog w= .ok (.int .i64 y0) w:=fun w=>by kernel_rfl
 have p1: ∀w,(part 3 #[.int .i64 x0,.int .i64 x1] 1).run prog w= .ok (.int .i64 x1) w:=fun w=>by kernel_rfl
 have q1: ∀w,(part 3 #[.int .i64 y0,.int .i64 y1] 1).run prog w= .ok (.int .i64 y1) w:=fun w=>by kernel_rfl
 rw[Op.equalIn];simp only[Sem.run_bind,run_underlying underlying211,Result.andThen_ok];simp[kSi,p0,q0,p1,q1,kCD d underlying3]
 (repeat' split)<;>simp_all
instance C134:Fnc prog 134 f134 63:={}
instance I211:Inf prog 211 (.agg #[.int .i64 0,.int .i64 0]) 2 16:={}
instance F211_0:Fld prog 211 0 0:={}
instance F211_1:Fld prog 211 1 1:={}
instance C172:Fnc prog 172 f172 47:={}
instance I53:Inf prog 53 (.slice none 0 0) 1 24:={}
theorem Ba4 (x0:Int) (w:World):(Instr.buildSlice 53 1 [(0,.int .i64 x0)].toArray).run prog w= .ok (.slice (some ⟨w.heap.size,0,none⟩) 1 1) (w.alloc (.cells [.int .i64 x0].toArray 3)):=by kernel_rfl
instance C135:Fnc prog 135 f135 62:={}
instance C170:Fnc prog 170 f170 18:={}
instance C133:Fnc prog 133 f133 66:={}
theorem BaB (x0:Int) (x1:Int) (w:World):(Instr.build 211 [(0,.int .i64 x0),(1,.int .i64 x1)].toArray).run prog w= .ok (.agg [.int .i64 x0,.int .i64 x1].toArray) w:=by kernel_rfl
theorem Ba9 (x00 x01:Value) (w:World):(Instr.buildSlice 201 1 [(0,.agg #[x00,x01])].toArray).run prog w= .ok (.slice (some ⟨w.heap.size,0,none⟩) 1 1) (w.alloc (.cells [x00,x01].toArray 211)):=by kernel_rfl
theorem BaF (x0:Option Addr) (x0n x0c:Nat) (x1:Option Addr) (x1n x1c:Nat) (x2:Option Addr) (x2n x2c:Nat) (w:World):(Instr.build 348 [(0,.slice x0 x0n x0c),(1,.slice x1 x1n x1c),(2,.slice x2 x2n x2c)].toArray).run prog w= .ok (.agg [.slice x0 x0n x0c,.slice x1 x1n x1c,.slice x2 x2n x2c,.int .u64 0].toArray) w:=by kernel_rfl
instance C120:Fnc prog 120 f120 84:={}
theorem Ba6 (x0:Option Addr) (x0n x0c:Nat) (x1:Option Addr) (x1n x1c:Nat) (x2:Option Addr) (x2n x2c:Nat) (w:World):(Instr.build 344 [(0,.slice x0 x0n x0c),(1,.slice x1 x1n x1c),(2,.slice x2 x2n x2c)].toArray).run prog w= .ok (.agg [.slice x0 x0n x0c,.slice x1 x1n x1c,.slice x2 x2n x2c,.int .u64 0].toArray) w:=by kernel_rfl
instance C27:Fnc prog 27 f27 79:={}
theorem Bb1 (x0:Int) (x1:Int) (x2:Int) (w:World):(Instr.build 181 [(0,.int .i64 x0),(1,.int .u64 x1),(2,.int .u64 x2)].toArray).run prog w= .ok (.agg [.int .i64 x0,.int .u64 x1,.int .u64 x2].toArray) w:=by kernel_rfl
theorem Baf (x00 x01 x02:Value) (w:World):(Instr.buildSlice 24 1 [(0,.agg #[x00,x01,x02])].toArray).run prog w= .ok (.slice (some ⟨w.heap.size,0,none⟩) 1 1) (w.alloc (.cells [x00,x01,x02].toArray 181)):=by kernel_rfl
instance C71:Fnc prog 71 f71 9:={}
instance C78:Fnc prog 78 f78 9:={}
instance C124:Fnc prog 124 f124 9:={}
instance F130_0:Fld prog 130 0 0:={}
instance F130_1:Fld prog 130 1 1:={}
instance C77:Fnc prog 77 f77 18:={}
instance I130:Inf prog 130 (.agg #[.int .u64 0,.int .u64 0]) 2 16:={}
instance C79:Fnc prog 79 f79 17:={}
instance C123:Fnc prog 123 f123 15:={}
instance I113:Inf prog 113 (.pointer none) 1 8:={}
instance F137_0:Fld prog 137 0 0:={}
instance C122:Fnc prog 122 f122 26:={}
instance C72:Fnc prog 72 f72 18:={}
instance F142_0:Fld prog 142 0 0:={}
instance I138:Inf prog 138 (.slice none 0 0) 1 24:={}
instance C33:Fnc prog 33 f33 50:={}
instance C13:Fnc prog 13 f13 18:={}
instance F137_1:Fld prog 137 1 2:={}
instance C14:Fnc prog 14 f14 3:={}
theorem Bac (w:World):(Instr.build 142 [].toArray).run prog w= .ok (.agg [.slice none 0 0,.slice none 0 0,.slice none 0 0,.int .i64 0,.bool false,.bool false,.bool false,.bool false,.bool false,.bool false,.bool false,.bool false,.bool false,.bool false,.bool false,.bool false,.bool false,.bool false,.bool false,.bool false,.bool false,.bool false,.bool false,.bool false,.bool false,.bool false,.bool false,.bool false,.bool false,.bool false,.bool false,.bool false,.bool false,.bool false,.bool false,.bool false,.bool false,.bool false,.bool false,.bool false,.bool false,.bool false,.bool false,.bool false,.bool false,.bool false,.bool false,.bool false,.bool false,.bool false,.bool false,.bool false,.bool false,.bool false,.bool false,.bool false,.bool false,.bool false,.bool false,.bool false,.bool false,.bool false,.bool false,.bool false,.bool false,.bool false,.bool false,.bool false,.bool false,.bool false,.bool false,.bool false,.bool false,.bool false,.bool false,.bool false,.bool false,.bool false,.bool false,.bool false,.bool false,.bool false,.bool false,.bool false,.bool false,.bool false,.bool false,.bool false,.bool false,.bool false,.bool false,.bool false,.bool false,.bool false,.bool false,.bool false,.bool false,.bool false,.bool false,.bool false,.bool false,.bool false,.bool false,.bool false,.bool false,.bool false,.bool false,.bool false,.bool false,.bool false,.bool false,.bool false,.bool false,.bool false,.bool false,.bool false,.bool false,.bool false,.bool false,.bool false,.bool false,.bool false,.bool false,.bool false,.bool false,.bool false,.bool false,.bool false,.bool false,.bool false,.bool false,.bool false,.bool false,.bool false,.bool false,.bool false,.bool false,.bool false,.bool false,.bool false,.bool false,.bool false,.bool false,.bool false,.bool false,.bool false,.bool false,.bool false,.bool false,.bool false,.bool false,.bool false,.bool false,.bool false,.bool false,.bool false,.bool false,.bool false,.bool false,.bool false,.bool false,.bool false,.bool false,.bool false,.bool false,.bool false,.bool false,.bool false,.bool false,.bool false,.bool false,.bool false,.bool false,.bool false,.bool false,.bool false,.bool false,.bool false,.bool false,.bool false,.bool false,.bool false,.bool false,.bool false,.bool false,.bool false,.bool false,.bool false,.bool false,.bool false,.bool false,.bool false,.bool false,.bool false,.bool false,.bool false,.bool false,.bool false,.bool false,.bool false,.bool false,.bool false,.bool false,.bool false,.bool false,.bool false,.bool false,.bool false,.bool false,.bool false,.bool false,.bool false,.bool false,.bool false,.bool false,.bool false,.bool false,.bool false,.bool false,.bool false,.bool false,.bool false,.bool false,.bool false,.bool false,.bool false,.bool false,.bool false,.bool false,.bool false,.bool false,.bool false,.bool false,.bool false,.bool false,.bool false,.bool false,.bool false,.bool false,.bool false,.bool false,.bool false,.bool false,.bool false,.bool false,.bool false,.bool false,.bool false,.bool false,.bool false,.bool false,.bool false,.bool false,.bool false,.bool false,.bool false,.bool false,.bool false,.bool false,.bool false,.slice none 0 0,.slice none 0 0].toArray) w:=by kernel_rfl
instance C47:Fnc prog 47 f47 16:={}
instance F142_2:Fld prog 142 2 4:={}
theorem X49a:(f127.name== "runtime.NumGoroutine")=false:=by kernel_rfl
theorem X49b:f127.body.isNone=true:=by kernel_rfl
theorem X49c:Extern.findNext f127=none:=by kernel_rfl
theorem X49d:Extern.find f127=some (Extern.SlicesOverlaps.overlaps #[138,138] #[4]):=by kernel_rfl
instance C80:Fnc prog 80 f80 95:={}
instance C38:Fnc prog 38 f38 83:={}
instance F142_1:Fld prog 142 1 3:={}
theorem BaT (x00 x01:Value) (x1:Int) (w:World):(Instr.build 137 [(0,.agg #[x00,x01]),(1,.int .i64 x1)].toArray).run prog w= .ok (.agg [x00,x01,.int .i64 x1,.slice none 0 0].toArray) w:=by kernel_rfl
theorem BaI (x0:Option Addr) (w:World):(Instr.buildSlice 138 1 [(0,.pointer x0)].toArray).run prog w= .ok (.slice (some ⟨w.heap.size,0,none⟩) 1 1) (w.alloc (.cells [.pointer x0].toArray 113)):=by kernel_rfl
instance C40:Fnc prog 40 f40 42:={}
instance F137_2:Fld prog 137 2 3:={}
instance C34:Fnc prog 34 f34 48:={}
theorem BaY (x0:Int) (x1:Int) (w:World):(Instr.build 130 [(0,.int .u64 x0),(1,.int .u64 x1)].toArray).run prog w= .ok (.agg [.int .u64 x0,.int .u64 x1].toArray) w:=by kernel_rfl
instance C11:Fnc prog 11 f11 19:={}
instance C126:Fnc prog 126 f126 33:={}
instance C76:Fnc prog 76 f76 51:={}
theorem kLt (x y:Operand) (xs ys:Array Value) (w:World):(eqGuard .neq 130 x y (.agg xs) (.agg ys)).run prog w= .ok () w:=by kernel_rfl
theorem kSj:prog.stoodInHeld 130=false:=by kernel_rfl
theorem kRF (d:Nat) (x0:Int) (y0:Int) (x1:Int) (y1:Int) (w:World):(Op.equalIn (d+2) 130 (.agg #[.int .u64 x0,.int .u64 x1]) (.agg #[.int .u64 y0,.int .u64 y1])).run prog w= .ok (decide (x0=y0∧x1=y1)) w:=by
 have p0: ∀w,(part 41 #[.int .u64 x0,.int .u64 x1] 0).run prog w= .ok (.int .u64 x0) w:=fun w=>by kernel_rfl
 have q0: ∀w,(part 41 #[.int .u64 y0,.int .u64 y1] 0).run prog w= .ok (.int .u64 y0) w:=fun w=>by kernel_rfl
 have p1: ∀w,(part 41 #[.int .u64 x0,.int .u64 x1] 1).run prog w= .ok (.int .u64 x1) w:=fun w=>by kernel_rfl
 have q1: ∀w,(part 41 #[.int .u64 y0,.int .u64 y1] 1).run prog w= .ok (.int .u64 y1) w:=fun w=>by kernel_rfl
 rw[Op.equalIn];simp only[Sem.run_bind,run_underlying underlying130,Result.andThen_ok];simp[kSj,p0,q0,p1,q1,kCD d underlying41]
 (repeat' split)<;>simp_all
theorem kLu (x0:Int) (x1:Int) (y0:Int) (y1:Int) (w:World):(binOp .neq 130 (.agg #[.int .u64 x0,.int .u64 x1]) (.agg #[.int .u64 y0,.int .u64 y1])).run prog w= .ok (.bool (decide (¬(x0=y0∧x1=y1)))) w:=
 kEN (p:=x0=y0∧x1=y1) (fun _ _=>by simp) (fun _=>by simp) (fun _ _=>by simp) (fun _ _ _=>by simp) (fun w=>kRF 9998 x0 y0 x1 y1 w) w
instance C8:Fnc prog 8 f8 21:={}
instance C112:Fnc prog 112 f112 9:={}
instance C113:Fnc prog 113 f113 20:={}
instance C155:Fnc prog 155 f155 18:={}
instance C114:Fnc prog 114 f114 15:={}
instance F110_0:Fld prog 110 0 0:={}
instance I275:Inf prog 275 (.agg #[.int .i64 0,.int .u64 0,.int .u64 0,.int .i64 0,.slice none 0 0]) 5 56:={}
instance F275_0:Fld prog 275 0 0:={}
instance F275_1:Fld prog 275 1 1:={}
instance C66:Fnc prog 66 f66 19:={}
instance F110_1:Fld prog 110 1 1:={}
instance I105:Inf prog 105 (.slice none 0 0) 1 24:={}
instance C64:Fnc prog 64 f64 79:={}
theorem BaZ (x0:Int) (x10 x11:Value) (x2:Int) (x3:Option Addr) (x3n x3c:Nat) (w:World):(Instr.build 275 [(0,.int .i64 x0),(1,.agg #[x10,x11]),(2,.int .i64 x2),(3,.slice x3 x3n x3c)].toArray).run prog w= .ok (.agg [.int .i64 x0,x10,x11,.int .i64 x2,.slice x3 x3n x3c].toArray) w:=by kernel_rfl
theorem BaP (x00 x01 x02 x03 x04:Value) (w:World):(Instr.buildSlice 105 1 [(0,.agg #[x00,x01,x02,x03,x04])].toArray).run prog w= .ok (.slice (some ⟨w.heap.size,0,none⟩) 1 1) (w.alloc (.cells [x00,x01,x02,x03,x04].toArray 275)):=by kernel_rfl
instance U3:UN prog 3:={}
instance U4:UN prog 4:={}
instance U5:UN prog 5:={}
instance U9:UN prog 9:={}
instance Z9:UStr prog 9:={}
instance U22:UN prog 22:={}
instance S22:US prog 22 61:={}
instance U23:UN prog 23:={}
instance S23:US prog 23 66:={}
instance U24:UN prog 24:={}
instance S24:US prog 24 181:={}
instance U25:UN prog 25:={}
instance S25:US prog 25 5:={}
instance U28:UN prog 28:={}
instance S28:US prog 28 41:={}
instance U30:UA prog 30:={}
instance U32:UN prog 32:={}
instance U33:UN prog 33:={}
instance U35:UN prog 35:={}
instance U37:UA prog 37:={}
instance U41:UN prog 41:={}
instance U45:UN prog 45:={}
instance U50:UA prog 50:={}
instance U53:UN prog 53:={}
instance S53:US prog 53 3:={}
instance U54:UA prog 54:={}
instance U55:UA prog 55:={}
instance U57:UA prog 57:={}
instance U59:UA prog 59:={}
instance U61:UA prog 61:={}
instance U63:UN prog 63:={}
instance S63:US prog 63 9:={}
instance U64:UN prog 64:={}
instance S64:US prog 64 190:={}
instance U66:UA prog 66:={}
instance U100:UN prog 100:={}
instance S100:US prog 100 57:={}
instance U105:UN prog 105:={}
instance S105:US prog 105 275:={}
instance U106:UA prog 106:={}
instance U113:UN prog 113:={}
instance U117:UN prog 117:={}
instance S117:US prog 117 126:={}
instance U118:UN prog 118:={}
instance U119:UN prog 119:={}
instance U123:UN prog 123:={}
instance S123:US prog 123 25:={}
instance U124:UN prog 124:={}
instance U126:UA prog 126:={}
instance U130:UA prog 130:={}
instance U138:UN prog 138:={}
instance S138:US prog 138 113:={}
instance U139:UA prog 139:={}
instance U181:UA prog 181:={}
instance U183:UN prog 183:={}
instance U185:UA prog 185:={}
instance U187:UA prog 187:={}
instance U188:UN prog 188:={}
instance S188:US prog 188 192:={}
instance U190:UA prog 190:={}
instance U192:UA prog 192:={}
instance U196:UN prog 196:={}
instance S196:US prog 196 4:={}
instance U197:UN prog 197:={}
instance S197:US prog 197 63:={}
instance U200:UN prog 200:={}
instance S200:US prog 200 207:={}
instance U201:UN prog 201:={}
instance S201:US prog 201 211:={}
instance U204:UN prog 204:={}
instance S204:US prog 204 59:={}
instance U211:UA prog 211:={}
instance U228:UN prog 228:={}
instance S228:US prog 228 227:={}
instance U233:UN prog 233:={}
instance U270:UA prog 270:={}
instance U277:UN prog 277:={}
instance S277:US prog 277 287:={}
instance U281:UN prog 281:={}
instance S281:US prog 281 336:={}
instance U287:UA prog 287:={}
instance U336:UA prog 336:={}
instance U345:UN prog 345:={}
instance S345:US prog 345 196:={}
instance U353:UN prog 353:={}
instance U354:UN prog 354:={}
instance S354:US prog 354 53:={}
instance U379:UN prog 379:={}
instance S379:US prog 379 390:={}
instance U383:UN prog 383:={}
instance U390:UA prog 390:={}
instance U401:UN prog 401:={}
instance C87:Fnc prog 87 f87 22:={}
instance C185:Fnc prog 185 f185 55:={}
instance C161:Fnc prog 161 f161 30:={}
theorem kM3 (x y:Operand) (xs ys:Array Value) (w:World):(eqGuard .eql 211 x y (.agg xs) (.agg ys)).run prog w= .ok () w:=by kernel_rfl
theorem kM4 (x0:Int) (x1:Int) (y0:Int) (y1:Int) (w:World):(binOp .eql 211 (.agg #[.int .i64 x0,.int .i64 x1]) (.agg #[.int .i64 y0,.int .i64 y1])).run prog w= .ok (.bool (decide (x0=y0∧x1=y1))) w:=
 kIR (p:=x0=y0∧x1=y1) (fun _ _=>by simp) (fun _=>by simp) (fun _ _=>by simp) (fun _ _ _=>by simp) (fun w=>kNO 9998 x0 y0 x1 y1 w) w
instance C162:Fnc prog 162 f162 80:={}
instance I196:Inf prog 196 (.slice none 0 0) 1 24:={}
end Go.Proofs.YtfmcioghekppjaaGreatDoor
namespace Go.Proofs.YtfmcioghekppjaaGreatDoor
open Go
instance C121:Sv.Fnc Tryz.prog 121 Tryz.f121 29:={}
end Go.Proofs.YtfmcioghekppjaaGreatDoor
namespace Go.Proofs.YtfmcioghekppjaaGreatDoor
open Go Go.Sv Tryz
instance C193:Fnc prog 193 f193 20:={}
instance C184:Fnc prog 184 f184 20:={}
instance C223:Fnc prog 223 f223 6:={}
instance C209:Fnc prog 209 f209 17:={}
instance C194:Fnc prog 194 f194 21:={}
instance C169:Fnc prog 169 f169 17:={}
instance F57_2:Fld prog 57 2 5:={}
instance I54:Inf prog 54 (.agg #[.slice none 0 0,.slice none 0 0,.slice none 0 0,.slice none 0 0]) 4 96:={}
instance C168:Fnc prog 168 f168 35:={}
instance F57_1:Fld prog 57 1 1:={}
instance C132:Fnc prog 132 f132 64:={}
instance I57:Inf prog 57 (.agg #[.int .i64 0,.slice none 0 0,.slice none 0 0,.slice none 0 0,.slice none 0 0,.int .i64 0,.int .i64 0,.int .i64 0,.int .i64 0,.int .i64 0,.int .i64 0,.int .i64 0,.int .i64 0]) 13 168:={}
instance F57_0:Fld prog 57 0 0:={}
instance F57_4:Fld prog 57 4 12:={}
instance F57_3:Fld prog 57 3 11:={}
instance C160:Fnc prog 160 f160 115:={}
instance C119:Fnc prog 119 f119 31:={}
instance C85:Fnc prog 85 f85 70:={}
theorem Bah (x2:Option Addr) (w:World):(Instr.build 225 [(2,.pointer x2)].toArray).run prog w= .ok (.agg [.slice none 0 0,.slice none 0 0,.pointer x2,.int .u64 0].toArray) w:=by kernel_rfl
instance F225_0:Fld prog 225 0 0:={}
theorem Ba8 (x00 x01 x02 x03 x04 x05 x06 x07 x08 x09 x010 x011 x012:Value) (w:World):(Instr.buildSlice 100 1 [(0,.agg #[x00,x01,x02,x03,x04,x05,x06,x07,x08,x09,x010,x011,x012])].toArray).run prog w= .ok (.slice (some ⟨w.heap.size,0,none⟩) 1 1) (w.alloc (.cells [x00,x01,x02,x03,x04,x05,x06,x07,x08,x09,x010,x011,x012].toArray 57)):=by kernel_rfl
instance I100:Inf prog 100 (.slice none 0 0) 1 24:={}
instance F225_1:Fld prog 225 1 1:={}
end Go.Proofs.YtfmcioghekppjaaGreatDoor
namespace Go.Proofs.YtfmcioghekppjaaGreatDoor
open Go
instance C69:Sv.Fnc Tryz.prog 69 Tryz.f69 46:={}
theorem Bae (x0:Option Addr) (x0n x0c:Nat) (x1:Option Addr) (w:World):(Instr.build 295 [(0,.slice x0 x0n x0c),(1,.pointer x1)].toArray).run Tryz.prog w= .ok (.agg [.slice x0 x0n x0c,.pointer x1,.slice none 0 0,.int .u64 0].toArray) w:=by kernel_rfl
instance F295_2:Sv.Fld Tryz.prog 295 2 2:={}
end Go.Proofs.YtfmcioghekppjaaGreatDoor
namespace Go.Proofs.YtfmcioghekppjaaGreatDoor
open Go Go.Sv Tryz
instance C39:Fnc prog 39 f39 5:={}
instance C65:Fnc prog 65 f65 5:={}
instance C166:Fnc prog 166 f166 10:={}
instance C110:Fnc prog 110 f110 16:={}
instance C75:Fnc prog 75 f75 6:={}
instance C125:Fnc prog 125 f125 19:={}
instance C74:Fnc prog 74 f74 9:={}
instance C36:Fnc prog 36 f36 6:={}
end Go.Proofs.YtfmcioghekppjaaGreatDoor
namespace Go.Proofs.YtfmcioghekppjaaGreatDoor
open Go
instance C111:Sv.Fnc Tryz.prog 111 Tryz.f111 53:={}
instance C130:Sv.Fnc Tryz.prog 130 Tryz.f130 51:={}
end Go.Proofs.YtfmcioghekppjaaGreatDoor
namespace Go.Proofs.YtfmcioghekppjaaGreatDoor
open Go Go.Sv Tryz
instance C88:Fnc prog 88 f88 44:={}
instance I61:Inf prog 61 (.agg #[.int .i64 0,.int .i64 0,.slice none 0 0,.slice none 0 0,.slice none 0 0,.slice none 0 0,.int .i64 0,.int .i64 0,.int .i64 0,.int .i64 0,.int .i64 0,.int .i64 0,.int .i64 0,.int .i64 0,.int .i64 0,.slice none 0 0,.int .u64 0,.string (bs [])]) 18 232:={}
instance F61_2:Fld prog 61 2 14:={}
instance F59_0:Fld prog 59 0 0:={}
instance F59_1:Fld prog 59 1 1:={}
end Go.Proofs.YtfmcioghekppjaaGreatDoor
namespace Go.Proofs.YtfmcioghekppjaaGreatDoor
open Go
instance C60:Sv.Fnc Tryz.prog 60 Tryz.f60 37:={}
instance C31:Sv.Fnc Tryz.prog 31 Tryz.f31 14:={}
instance C68:Sv.Fnc Tryz.prog 68 Tryz.f68 13:={}
theorem Ban (x00 x01 x02:Value) (x2:Int) (w:World):(Instr.build 289 [(0,.agg #[x00,x01,x02]),(2,.int .i64 x2)].toArray).run Tryz.prog w= .ok (.agg [x00,x01,x02,.int .i64 0,.int .i64 x2,.string (Sv.bs [])].toArray) w:=by kernel_rfl
instance C4:Sv.Fnc Tryz.prog 4 Tryz.f4 82:={}
instance F61_1:Sv.Fld Tryz.prog 61 1 1:={}
instance F61_3:Sv.Fld Tryz.prog 61 3 17:={}
instance F121_4:Sv.Fld Tryz.prog 121 4 4:={}
instance F203_10:Sv.Fld Tryz.prog 203 10 10:={}
end Go.Proofs.YtfmcioghekppjaaGreatDoor
namespace Go.Proofs.YtfmcioghekppjaaGreatDoor
open Go Go.Sv Tryz
instance C70:Fnc prog 70 f70 116:={}
theorem BaJ (x0:Option Addr) (x0n x0c:Nat) (x2:Option Addr) (x2n x2c:Nat) (x3:Option Addr) (x3n x3c:Nat) (x4:Option Addr) (x4n x4c:Nat) (w:World):(Instr.build 297 [(0,.slice x0 x0n x0c),(2,.slice x2 x2n x2c),(3,.slice x3 x3n x3c),(4,.slice x4 x4n x4c)].toArray).run prog w= .ok (.agg [.slice x0 x0n x0c,.slice none 0 0,.slice x2 x2n x2c,.slice x3 x3n x3c,.slice x4 x4n x4c,.int .u64 0].toArray) w:=by kernel_rfl
instance I59:Inf prog 59 (.agg #[.int .i64 0,.slice none 0 0,.int .u64 0]) 3 40:={}
instance F59_2:Fld prog 59 2 2:={}
instance F297_1:Fld prog 297 1 1:={}
instance I201:Inf prog 201 (.slice none 0 0) 1 24:={}
instance C86:Fnc prog 86 f86 177:={}
instance I227:Inf prog 227 (.agg #[.slice none 0 0,.slice none 0 0,.int .u64 0,.bool false,.int .i64 0,.int .u64 0]) 6 80:={}
theorem Bav (x0:Option Addr) (x0n x0c:Nat) (x1:Option Addr) (x1n x1c:Nat) (w:World):(Instr.build 230 [(0,.slice x0 x0n x0c),(1,.slice x1 x1n x1c)].toArray).run prog w= .ok (.agg [.slice x0 x0n x0c,.slice x1 x1n x1c,.int .u64 0].toArray) w:=by kernel_rfl
instance F230_0:Fld prog 230 0 0:={}
instance F227_2:Fld prog 227 2 2:={}
instance F227_0:Fld prog 227 0 0:={}
instance F227_1:Fld prog 227 1 1:={}
instance I126:Inf prog 126 (.agg #[.int .i64 0,.int .i64 0,.slice none 0 0,.slice none 0 0,.slice none 0 0,.slice none 0 0,.int .i64 0,.int .i64 0,.int .i64 0,.int .i64 0,.int .i64 0,.int .i64 0,.int .i64 0,.int .i64 0,.int .u64 0,.pointer none,.bool false,.slice none 0 0,.bool false,.int .i64 0]) 20 240:={}
instance C84:Fnc prog 84 f84 75:={}
instance F61_0:Fld prog 61 0 0:={}
theorem BaE (w:World):(Instr.build 126 [].toArray).run prog w= .ok (.agg [.int .i64 0,.int .i64 0,.slice none 0 0,.slice none 0 0,.slice none 0 0,.slice none 0 0,.int .i64 0,.int .i64 0,.int .i64 0,.int .i64 0,.int .i64 0,.int .i64 0,.int .i64 0,.int .i64 0,.int .u64 0,.pointer none,.bool false,.slice none 0 0,.bool false,.int .i64 0].toArray) w:=by kernel_rfl
theorem Baw (x0:Int) (x10 x11 x12 x13 x14 x15 x16 x17 x18 x19 x110 x111 x112:Value) (x2:Int) (x3:Option Addr) (x7:Int) (w:World):(Instr.build 126 [(0,.int .i64 x0),(1,.agg #[x10,x11,x12,x13,x14,x15,x16,x17,x18,x19,x110,x111,x112]),(2,.int .u64 x2),(3,.pointer x3),(7,.int .i64 x7)].toArray).run prog w= .ok (.agg [.int .i64 x0,x10,x11,x12,x13,x14,x15,x16,x17,x18,x19,x110,x111,x112,.int .u64 x2,.pointer x3,.bool false,.slice none 0 0,.bool false,.int .i64 x7].toArray) w:=by kernel_rfl
instance C46:Fnc prog 46 f46 121:={}
theorem Bao (x3:Option Addr) (w:World):(Instr.build 121 [(3,.pointer x3)].toArray).run prog w= .ok (.agg [.slice none 0 0,.pointer none,.pointer none,.pointer x3,.slice none 0 0].toArray) w:=by kernel_rfl
instance F126_0:Fld prog 126 0 0:={}
instance F121_0:Fld prog 121 0 0:={}
theorem BaS (x00 x01 x02 x03 x04 x05 x06 x07 x08 x09 x010 x011 x012 x013 x014 x015 x016 x017 x018 x019:Value) (w:World):(Instr.buildSlice 117 1 [(0,.agg #[x00,x01,x02,x03,x04,x05,x06,x07,x08,x09,x010,x011,x012,x013,x014,x015,x016,x017,x018,x019])].toArray).run prog w= .ok (.slice (some ⟨w.heap.size,0,none⟩) 1 1) (w.alloc (.cells [x00,x01,x02,x03,x04,x05,x06,x07,x08,x09,x010,x011,x012,x013,x014,x015,x016,x017,x018,x019].toArray 126)):=by kernel_rfl
instance I117:Inf prog 117 (.slice none 0 0) 1 24:={}
theorem BaC (x00 x01 x02:Value) (w:World):(Instr.buildSlice 204 1 [(0,.agg #[x00,x01,x02])].toArray).run prog w= .ok (.slice (some ⟨w.heap.size,0,none⟩) 1 1) (w.alloc (.cells [x00,x01,x02].toArray 59)):=by kernel_rfl
instance F121_1:Fld prog 121 1 1:={}
instance I118:Inf prog 118 (.pointer none) 1 8:={}
instance F121_2:Fld prog 121 2 2:={}
instance I119:Inf prog 119 (.pointer none) 1 8:={}
end Go.Proofs.YtfmcioghekppjaaGreatDoor
namespace Go.Proofs.YtfmcioghekppjaaGreatDoor
open Go
instance C15:Sv.Fnc Tryz.prog 15 Tryz.f15 50:={}
instance F126_2:Sv.Fld Tryz.prog 126 2 14:={}
instance C63:Sv.Fnc Tryz.prog 63 Tryz.f63 133:={}
end Go.Proofs.YtfmcioghekppjaaGreatDoor
namespace Go.Proofs.YtfmcioghekppjaaGreatDoor
open Go Go.Sv Tryz
instance C32:Fnc prog 32 f32 166:={}
theorem Bay (x0:Option Addr) (x0n x0c:Nat) (x1:Option Addr) (x1n x1c:Nat) (x2:Option Addr) (x6:Option Addr) (x6n x6c:Nat) (x7:Option Addr) (x7n x7c:Nat) (x8:Option Addr) (x8n x8c:Nat) (x9:Option Addr) (x9n x9c:Nat) (w:World):(Instr.build 203 [(0,.slice x0 x0n x0c),(1,.slice x1 x1n x1c),(2,.pointer x2),(6,.slice x6 x6n x6c),(7,.slice x7 x7n x7c),(8,.slice x8 x8n x8c),(9,.slice x9 x9n x9c)].toArray).run prog w= .ok (.agg [.slice x0 x0n x0c,.slice x1 x1n x1c,.pointer x2,.pointer none,.pointer none,.slice none 0 0,.slice x6 x6n x6c,.slice x7 x7n x7c,.slice x8 x8n x8c,.slice x9 x9n x9c,.slice none 0 0].toArray) w:=by kernel_rfl
instance F203_9:Fld prog 203 9 9:={}
instance F203_5:Fld prog 203 5 5:={}
theorem Baa (x0:Option Addr) (w:World):(Instr.buildSlice 200 1 [(0,.pointer x0)].toArray).run prog w= .ok (.slice (some ⟨w.heap.size,0,none⟩) 1 1) (w.alloc (.cells [.pointer x0].toArray 207)):=by kernel_rfl
instance I207:Inf prog 207 (.pointer none) 1 8:={}
instance I200:Inf prog 200 (.slice none 0 0) 1 24:={}
instance F203_3:Fld prog 203 3 3:={}
instance I198:Inf prog 198 (.pointer none) 1 8:={}
instance F203_4:Fld prog 203 4 4:={}
instance I199:Inf prog 199 (.pointer none) 1 8:={}
end Go.Proofs.YtfmcioghekppjaaGreatDoor
namespace Go.Proofs.YtfmcioghekppjaaGreatDoor
open Go
instance C28:Sv.Fnc Tryz.prog 28 Tryz.f28 88:={}
theorem BaN (x0:Int) (x4:Int) (x3:Int) (w:World):(Instr.build 57 [(0,.int .i64 x0),(4,.int .i64 x4),(3,.int .i64 x3)].toArray).run Tryz.prog w= .ok (.agg [.int .i64 x0,.slice none 0 0,.slice none 0 0,.slice none 0 0,.slice none 0 0,.int .i64 0,.int .i64 0,.int .i64 0,.int .i64 0,.int .i64 0,.int .i64 0,.int .i64 x3,.int .i64 x4].toArray) w:=by kernel_rfl
instance C30:Sv.Fnc Tryz.prog 30 Tryz.f30 75:={}
end Go.Proofs.YtfmcioghekppjaaGreatDoor
namespace Go.Proofs.YtfmcioghekppjaaGreatDoor
open Go Go.Sv Tryz
instance I30:Inf prog 30 (.agg #[.slice none 0 0,.slice none 0 0,.slice none 0 0]) 3 72:={}
instance C6:Fnc prog 6 f6 169:={}
theorem Bai (x1:Option Addr) (x1n x1c:Nat) (w:World):(Instr.build 30 [(1,.slice x1 x1n x1c)].toArray).run prog w= .ok (.agg [.slice none 0 0,.slice x1 x1n x1c,.slice none 0 0].toArray) w:=by kernel_rfl
instance F30_1:Fld prog 30 1 1:={}
theorem Bax (x0:Int) (x2:Int) (w:World):(Instr.build 59 [(0,.int .i64 x0),(2,.int .u64 x2)].toArray).run prog w= .ok (.agg [.int .i64 x0,.slice none 0 0,.int .u64 x2].toArray) w:=by kernel_rfl
theorem BaX (x0:Int) (x10 x11 x12 x13 x14 x15 x16 x17 x18 x19 x110 x111 x112:Value) (x20 x21 x22:Value) (w:World):(Instr.build 61 [(0,.int .i64 x0),(1,.agg #[x10,x11,x12,x13,x14,x15,x16,x17,x18,x19,x110,x111,x112]),(2,.agg #[x20,x21,x22])].toArray).run prog w= .ok (.agg [.int .i64 x0,x10,x11,x12,x13,x14,x15,x16,x17,x18,x19,x110,x111,x112,x20,x21,x22,.string (bs [])].toArray) w:=by kernel_rfl
instance F30_0:Fld prog 30 0 0:={}
theorem Baz (x00 x01 x02 x03 x04 x05 x06 x07 x08 x09 x010 x011 x012 x013 x014 x015 x016 x017:Value) (w:World):(Instr.buildSlice 22 1 [(0,.agg #[x00,x01,x02,x03,x04,x05,x06,x07,x08,x09,x010,x011,x012,x013,x014,x015,x016,x017])].toArray).run prog w= .ok (.slice (some ⟨w.heap.size,0,none⟩) 1 1) (w.alloc (.cells [x00,x01,x02,x03,x04,x05,x06,x07,x08,x09,x010,x011,x012,x013,x014,x015,x016,x017].toArray 61)):=by kernel_rfl
instance I22:Inf prog 22 (.slice none 0 0) 1 24:={}
instance F30_2:Fld prog 30 2 2:={}
theorem BaV (x0:Int) (w:World):(Instr.buildSlice 28 1 [(0,.int .u64 x0)].toArray).run prog w= .ok (.slice (some ⟨w.heap.size,0,none⟩) 1 1) (w.alloc (.cells [.int .u64 x0].toArray 41)):=by kernel_rfl
instance I28:Inf prog 28 (.slice none 0 0) 1 24:={}
instance C41:Fnc prog 41 f41 16:={}
instance C81:Fnc prog 81 f81 16:={}
instance C83:Fnc prog 83 f83 16:={}
instance C42:Fnc prog 42 f42 16:={}
instance C43:Fnc prog 43 f43 54:={}
instance C44:Fnc prog 44 f44 17:={}
instance F227_4:Fld prog 227 4 4:={}
instance C12:Fnc prog 12 f12 48:={}
instance I50:Inf prog 50 (.agg #[.int .i64 0,.bool false,.int .i64 0,.int .i64 0,.int .i64 0,.int .u64 0]) 6 48:={}
instance F126_3:Fld prog 126 3 15:={}
instance F126_5:Fld prog 126 5 17:={}
theorem Bag (x0:Int) (x1:Bool) (x2:Int) (x3:Int) (x4:Int) (x5:Int) (w:World):(Instr.build 50 [(0,.int .i64 x0),(1,.bool x1),(2,.int .i64 x2),(3,.int .i64 x3),(4,.int .i64 x4),(5,.int .u64 x5)].toArray).run prog w= .ok (.agg [.int .i64 x0,.bool x1,.int .i64 x2,.int .i64 x3,.int .i64 x4,.int .u64 x5].toArray) w:=by kernel_rfl
instance C73:Fnc prog 73 f73 26:={}
instance F121_3:Fld prog 121 3 3:={}
instance C35:Fnc prog 35 f35 18:={}
theorem T35:f35.ntmps=18:=by kernel_rfl
instance C37:Fnc prog 37 f37 37:={}
end Go.Proofs.YtfmcioghekppjaaGreatDoor
namespace Go.Proofs.YtfmcioghekppjaaGreatDoor
open Go
instance C10:Sv.Fnc Tryz.prog 10 Tryz.f10 121:={}
theorem T10:Tryz.f10.ntmps=121:=by kernel_rfl
end Go.Proofs.YtfmcioghekppjaaGreatDoor
namespace Go.Proofs.YtfmcioghekppjaaGreatDoor
open Go Go.Sv Tryz
instance C9:Fnc prog 9 f9 38:={}
instance F43_2:Fld prog 43 2 2:={}
instance F43_5:Fld prog 43 5 5:={}
instance C7:Fnc prog 7 f7 59:={}
instance I37:Inf prog 37 (.agg #[.pointer none,.pointer none,.pointer none,.pointer none,.int .i64 0]) 5 40:={}
instance F37_1:Fld prog 37 1 1:={}
instance F37_3:Fld prog 37 3 3:={}
instance F37_0:Fld prog 37 0 0:={}
instance I32:Inf prog 32 (.pointer none) 1 8:={}
instance F37_2:Fld prog 37 2 2:={}
instance I34:Inf prog 34 (.pointer none) 1 8:={}
theorem BaK (x1:Option Addr) (x3:Option Addr) (x4:Int) (w:World):(Instr.build 37 [(1,.pointer x1),(3,.pointer x3),(4,.int .i64 x4)].toArray).run prog w= .ok (.agg [.pointer none,.pointer x1,.pointer none,.pointer x3,.int .i64 x4].toArray) w:=by kernel_rfl
instance C3:Fnc prog 3 f3 194:={}
instance C5:Fnc prog 5 f5 99:={}
instance F37_4:Fld prog 37 4 4:={}
theorem Bat (x2:Int) (w:World):(Instr.build 43 [(2,.int .i64 x2)].toArray).run prog w= .ok (.agg [.int .i64 0,.int .i64 0,.int .i64 x2,.int .u64 0,.bool false,.bool false].toArray) w:=by kernel_rfl
end Go.Proofs.YtfmcioghekppjaaGreatDoor
