/-
  Joined.
-/
import Derived.Test.YtdoihieboknmnaaGreatDoorP01
import Derived.Test.YtdoihieboknmnaaGreatDoorProg
set_option linter.unusedSimpArgs false
set_option linter.unusedVariables false
namespace Go.Proofs.YtdoihieboknmnaaGreatDoor
open Go Go.Sv Tryz
instance C250:Fnc prog 250 f250 9:={}
instance C234:Fnc prog 234 f234 25:={}
instance C83:Fnc prog 83 f83 29:={}
instance C239:Fnc prog 239 f239 27:={}
instance C87:Fnc prog 87 f87 55:={}
instance C43:Fnc prog 43 f43 25:={}
instance I9:Inf prog 9 (.string (bs [])) 1 16:={}
instance C88:Fnc prog 88 f88 83:={}
instance F150_0:Fld prog 150 0 0:={}
instance F150_4:Fld prog 150 4 7:={}
instance F150_1:Fld prog 150 1 1:={}
instance F150_3:Fld prog 150 3 6:={}
instance F150_2:Fld prog 150 2 2:={}
instance F147_0:Fld prog 147 0 0:={}
instance F147_1:Fld prog 147 1 1:={}
instance F147_2:Fld prog 147 2 2:={}
instance F147_3:Fld prog 147 3 3:={}
instance I162:Inf prog 162 (.agg #[.bool false,.int .u64 0,.int .u64 0]) 3 24:={}
instance F162_0:Fld prog 162 0 0:={}
instance F162_2:Fld prog 162 2 2:={}
instance C44:Fnc prog 44 f44 81:={}
instance F48_0:Fld prog 48 0 0:={}
instance F48_1:Fld prog 48 1 1:={}
instance F48_2:Fld prog 48 2 2:={}
instance I150:Inf prog 150 (.agg #[.int .i64 0,.string (bs []),.bool false,.int .u64 0,.int .u64 0,.int .u64 0,.slice none 0 0,.int .i64 0]) 8 88:={}
instance C256:Fnc prog 256 f256 11:={}
instance C262:Fnc prog 262 f262 19:={}
instance C255:Fnc prog 255 f255 9:={}
instance C240:Fnc prog 240 f240 51:={}
instance I147:Inf prog 147 (.agg #[.bool false,.int .u64 0,.int .u64 0,.int .u64 0]) 4 32:={}
theorem BbQ (w:World):(Instr.build 147 [].toArray).run prog w= .ok (.agg [.bool false,.int .u64 0,.int .u64 0,.int .u64 0].toArray) w:=by kernel_rfl
theorem kUu (x y:Operand) (xs ys:Array Value) (w:World):(eqGuard .neq 147 x y (.agg xs) (.agg ys)).run prog w= .ok () w:=by kernel_rfl
theorem kWJ:prog.stoodInHeld 147=false:=by kernel_rfl
theorem kVy (d:Nat) (a:Bool) (b:Bool) (c:Int) (e:Int) (f:Int) (g:Int) (h:Int) (i:Int) (w:World):(Op.equalIn (d+2) 147 (.agg #[.bool a,.int .u64 c,.int .u64 f,.int .u64 h]) (.agg #[.bool b,.int .u64 e,.int .u64 g,.int .u64 i])).run prog w= .ok (decide (a=b∧c=e∧f=g∧h=i)) w:=by
 have j: ∀w,(part 4 #[.bool a,.int .u64 c,.int .u64 f,.int .u64 h] 0).run prog w= .ok (.bool a) w:=fun w=>by kernel_rfl
 have k: ∀w,(part 4 #[.bool b,.int .u64 e,.int .u64 g,.int .u64 i] 0).run prog w= .ok (.bool b) w:=fun w=>by kernel_rfl
 have l: ∀w,(part 44 #[.bool a,.int .u64 c,.int .u64 f,.int .u64 h] 1).run prog w= .ok (.int .u64 c) w:=fun w=>by kernel_rfl
 have m: ∀w,(part 44 #[.bool b,.int .u64 e,.int .u64 g,.int .u64 i] 1).run prog w= .ok (.int .u64 e) w:=fun w=>by kernel_rfl
 have n: ∀w,(part 44 #[.bool a,.int .u64 c,.int .u64 f,.int .u64 h] 2).run prog w= .ok (.int .u64 f) w:=fun w=>by kernel_rfl
 have o: ∀w,(part 44 #[.bool b,.int .u64 e,.int .u64 g,.int .u64 i] 2).run prog w= .ok (.int .u64 g) w:=fun w=>by kernel_rfl
 have p: ∀w,(part 44 #[.bool a,.int .u64 c,.int .u64 f,.int .u64 h] 3).run prog w= .ok (.int .u64 h) w:=fun w=>by kernel_rfl
 have q: ∀w,(part 44 #[.bool b,.int .u64 e,.int .u64 g,.int .u64 i] 3).run prog w= .ok (.int .u64 i) w:=fun w=>by kernel_rfl
 rw[Op.equalIn];simp only[Sem.run_bind,run_underlying underlying147,Result.andThen_ok];simp[kWJ,j,k,l,m,n,o,p,q,kFc d underlying4,kCD d underlying44]
 (repeat' split)<;>simp_all
theorem kUv (a:Bool) (b:Int) (c:Int) (d:Int) (e:Bool) (f:Int) (g:Int) (h:Int) (w:World):(binOp .neq 147 (.agg #[.bool a,.int .u64 b,.int .u64 c,.int .u64 d]) (.agg #[.bool e,.int .u64 f,.int .u64 g,.int .u64 h])).run prog w= .ok (.bool (decide (¬(a=e∧b=f∧c=g∧d=h)))) w:=
 kEN (p:=a=e∧b=f∧c=g∧d=h) (fun _ _=>by simp) (fun _=>by simp) (fun _ _=>by simp) (fun _ _ _=>by simp) (fun w=>kVy 9998 a e b f c g d h w) w
instance I4:Inf prog 4 (.bool false) 1 1:={}
instance C223:Fnc prog 223 f223 21:={}
instance C224:Fnc prog 224 f224 66:={}
theorem X99a:(f274.name== "runtime.NumGoroutine")=false:=by kernel_rfl
theorem X99b:f274.body.isNone=true:=by kernel_rfl
theorem X99c:Extern.findNext f274=none:=by kernel_rfl
theorem X99d:Extern.find f274=some Extern.BytealgIndexByte.indexByte:=by kernel_rfl
instance C264:Fnc prog 264 f264 8:={}
instance C259:Fnc prog 259 f259 143:={}
instance C247:Fnc prog 247 f247 8:={}
instance C248:Fnc prog 248 f248 23:={}
instance C232:Fnc prog 232 f232 13:={}
instance C249:Fnc prog 249 f249 18:={}
instance C233:Fnc prog 233 f233 8:={}
instance I430:Inf prog 430 (.agg #[.int .i64 0,.string (bs []),.int .u64 0]) 3 32:={}
instance C235:Fnc prog 235 f235 46:={}
theorem BbK (a:Int) (b:ByteArray) (w:World):(Instr.build 430 [(0,.int .i64 a),(1,.string b)].toArray).run prog w= .ok (.agg [.int .i64 a,.string b,.int .u64 0].toArray) w:=by kernel_rfl
theorem Bb6 (w:World):(Instr.build 430 [].toArray).run prog w= .ok (.agg [.int .i64 0,.string (bs []),.int .u64 0].toArray) w:=by kernel_rfl
instance C251:Fnc prog 251 f251 26:={}
theorem BbW (a:Int) (b:Int) (w:World):(Instr.build 430 [(0,.int .i64 a),(2,.int .u64 b)].toArray).run prog w= .ok (.agg [.int .i64 a,.string (bs []),.int .u64 b].toArray) w:=by kernel_rfl
instance C221:Fnc prog 221 f221 98:={}
theorem BbF (a b c:Value) (w:World):(Instr.buildSlice 418 1 [(0,.agg #[a,b,c])].toArray).run prog w= .ok (.slice (some ⟨w.heap.size,0,none⟩) 1 1) (w.alloc (.cells [a,b,c].toArray 430)):=by kernel_rfl
instance C237:Fnc prog 237 f237 13:={}
instance F436_1:Fld prog 436 1 1:={}
instance F436_0:Fld prog 436 0 0:={}
instance C236:Fnc prog 236 f236 39:={}
instance F430_0:Fld prog 430 0 0:={}
instance I3:Inf prog 3 (.int .i64 0) 1 8:={}
instance F430_1:Fld prog 430 1 1:={}
instance C252:Fnc prog 252 f252 46:={}
instance I44:Inf prog 44 (.int .u64 0) 1 8:={}
instance C253:Fnc prog 253 f253 41:={}
instance F430_2:Fld prog 430 2 2:={}
instance C254:Fnc prog 254 f254 29:={}
instance F162_1:Fld prog 162 1 1:={}
instance C238:Fnc prog 238 f238 89:={}
theorem BbG (a b c:Value) (w:World):(Instr.buildSlice 148 1 [(0,.agg #[a,b,c])].toArray).run prog w= .ok (.slice (some ⟨w.heap.size,0,none⟩) 1 1) (w.alloc (.cells [a,b,c].toArray 162)):=by kernel_rfl
instance I148:Inf prog 148 (.slice none 0 0) 1 24:={}
instance C222:Fnc prog 222 f222 120:={}
theorem Bbl (c:Option Addr) (a b:Nat) (w:World):(Instr.build 436 [(0,.slice c a b)].toArray).run prog w= .ok (.agg [.slice c a b,.int .i64 0].toArray) w:=by kernel_rfl
instance I436:Inf prog 436 (.agg #[.slice none 0 0,.int .i64 0]) 2 32:={}
instance F414_1:Fld prog 414 1 3:={}
instance F414_0:Fld prog 414 0 0:={}
theorem Bb9 (a:ByteArray) (w:World):(Instr.buildSlice 45 1 [(0,.string a)].toArray).run prog w= .ok (.slice (some ⟨w.heap.size,0,none⟩) 1 1) (w.alloc (.cells [.string a].toArray 9)):=by kernel_rfl
instance I45:Inf prog 45 (.slice none 0 0) 1 24:={}
theorem BbA (a b c d e f g h:Value) (w:World):(Instr.buildSlice 46 1 [(0,.agg #[a,b,c,d,e,f,g,h])].toArray).run prog w= .ok (.slice (some ⟨w.heap.size,0,none⟩) 1 1) (w.alloc (.cells [a,b,c,d,e,f,g,h].toArray 150)):=by kernel_rfl
instance I46:Inf prog 46 (.slice none 0 0) 1 24:={}
instance F414_2:Fld prog 414 2 4:={}
instance C245:Fnc prog 245 f245 52:={}
instance C231:Fnc prog 231 f231 8:={}
instance C220:Fnc prog 220 f220 8:={}
instance I48:Inf prog 48 (.agg #[.string (bs []),.slice none 0 0,.slice none 0 0]) 3 64:={}
instance C198:Fnc prog 198 f198 93:={}
theorem T198:f198.ntmps=93:=by kernel_rfl
instance I41:Inf prog 41 (.int .i64 0) 1 8:={}
instance I414:Inf prog 414 (.agg #[.string (bs []),.slice none 0 0,.slice none 0 0,.bool false,.slice none 0 0]) 5 96:={}
theorem Bb7 (w:World):(Instr.build 48 [].toArray).run prog w= .ok (.agg [.string (bs []),.slice none 0 0,.slice none 0 0].toArray) w:=by kernel_rfl
instance C241:Fnc prog 241 f241 8:={}
theorem Bbm (w:World):(Instr.buildSlice 45 0 [].toArray).run prog w= .ok (.slice (some ⟨w.heap.size,0,none⟩) 0 0) (w.alloc (.cells [].toArray 9)):=by kernel_rfl
instance C242:Fnc prog 242 f242 8:={}
theorem Bc7 (w:World):(Instr.buildSlice 46 0 [].toArray).run prog w= .ok (.slice (some ⟨w.heap.size,0,none⟩) 0 0) (w.alloc (.cells [].toArray 150)):=by kernel_rfl
instance C196:Fnc prog 196 f196 8:={}
theorem BbZ (w:World):(Instr.buildSlice 148 0 [].toArray).run prog w= .ok (.slice (some ⟨w.heap.size,0,none⟩) 0 0) (w.alloc (.cells [].toArray 162)):=by kernel_rfl
instance C225:Fnc prog 225 f225 32:={}
instance I158:Inf prog 158 (.agg #[.slice none 0 0,.bool false]) 2 32:={}
instance C148:Fnc prog 148 f148 14:={}
instance F260_1:Fld prog 260 1 3:={}
theorem BbO (c:Option Addr) (a b:Nat) (w:World):(Instr.build 158 [(0,.slice c a b)].toArray).run prog w= .ok (.agg [.slice c a b,.bool false].toArray) w:=by kernel_rfl
instance C146:Fnc prog 146 f146 62:={}
instance F260_0:Fld prog 260 0 0:={}
instance F260_2:Fld prog 260 2 4:={}
instance F260_3:Fld prog 260 3 5:={}
theorem BbP (a:Int) (w:World):(Instr.build 162 [(1,.int .u64 a)].toArray).run prog w= .ok (.agg [.bool false,.int .u64 a,.int .u64 0].toArray) w:=by kernel_rfl
theorem Bbc (c:Option Addr) (a b:Nat) (d:Bool) (w:World):(Instr.build 158 [(0,.slice c a b),(1,.bool d)].toArray).run prog w= .ok (.agg [.slice c a b,.bool d].toArray) w:=by kernel_rfl
theorem BbC (w:World):(Instr.build 158 [].toArray).run prog w= .ok (.agg [.slice none 0 0,.bool false].toArray) w:=by kernel_rfl
instance C91:Fnc prog 91 f91 14:={}
instance C93:Fnc prog 93 f93 53:={}
instance C47:Fnc prog 47 f47 7:={}
instance C200:Fnc prog 200 f200 14:={}
theorem Bbi (a b c:Value) (w:World):(Instr.build 260 [(0,.agg #[a,b,c])].toArray).run prog w= .ok (.agg [a,b,c,.int .i64 0,.bool false,.int .i64 0].toArray) w:=by kernel_rfl
instance F158_0:Fld prog 158 0 0:={}
instance F158_1:Fld prog 158 1 1:={}
theorem Bbo (a:Bool) (b:Int) (c:Int) (w:World):(Instr.build 162 [(0,.bool a),(1,.int .u64 b),(2,.int .u64 c)].toArray).run prog w= .ok (.agg [.bool a,.int .u64 b,.int .u64 c].toArray) w:=by kernel_rfl
instance C8:Fnc prog 8 f8 11:={}
theorem Bbe (a:ByteArray) (b:ByteArray) (c:ByteArray) (d:ByteArray) (e:ByteArray) (f:ByteArray) (w:World):(Instr.build 213 [(0,.string a),(1,.string b),(2,.string c),(3,.string d),(4,.string e),(5,.string f)].toArray).run prog w= .ok (.agg [.string a,.string b,.string c,.string d,.string e,.string f].toArray) w:=by kernel_rfl
instance C69:Fnc prog 69 f69 130:={}
instance I213:Inf prog 213 (.agg #[.string (bs []),.string (bs []),.string (bs []),.string (bs []),.string (bs []),.string (bs [])]) 6 96:={}
theorem Bbx (a:ByteArray) (b:ByteArray) (c:ByteArray) (d:ByteArray) (w:World):(Instr.build 309 [(0,.string a),(1,.string b),(2,.string c),(3,.string d)].toArray).run prog w= .ok (.agg [.string a,.string b,.string c,.string d].toArray) w:=by kernel_rfl
instance I309:Inf prog 309 (.agg #[.string (bs []),.string (bs []),.string (bs []),.string (bs [])]) 4 64:={}
theorem Bc8 (a:ByteArray) (w:World):(Instr.build 48 [(0,.string a)].toArray).run prog w= .ok (.agg [.string a,.slice none 0 0,.slice none 0 0].toArray) w:=by kernel_rfl
theorem Bbb (a:Int) (b:ByteArray) (c:Int) (w:World):(Instr.build 150 [(0,.int .i64 a),(1,.string b),(4,.int .i64 c)].toArray).run prog w= .ok (.agg [.int .i64 a,.string b,.bool false,.int .u64 0,.int .u64 0,.int .u64 0,.slice none 0 0,.int .i64 c].toArray) w:=by kernel_rfl
theorem BbT (a:Bool) (b:Int) (c:Int) (d:Int) (w:World):(Instr.build 147 [(0,.bool a),(1,.int .u64 b),(2,.int .u64 c),(3,.int .u64 d)].toArray).run prog w= .ok (.agg [.bool a,.int .u64 b,.int .u64 c,.int .u64 d].toArray) w:=by kernel_rfl
instance C143:Fnc prog 143 f143 51:={}
instance I248:Inf prog 248 (.agg #[.int .u8 0,.string (bs []),.int .u64 0]) 3 32:={}
instance C84:Fnc prog 84 f84 18:={}
theorem Bc9 (a:Int) (b:Int) (w:World):(Instr.build 248 [(0,.int .u8 a),(2,.int .u64 b)].toArray).run prog w= .ok (.agg [.int .u8 a,.string (bs []),.int .u64 b].toArray) w:=by kernel_rfl
theorem Bbt (a:Int) (b:ByteArray) (w:World):(Instr.build 248 [(0,.int .u8 a),(1,.string b)].toArray).run prog w= .ok (.agg [.int .u8 a,.string b,.int .u64 0].toArray) w:=by kernel_rfl
instance C41:Fnc prog 41 f41 109:={}
theorem Bb4 (a b c:Value) (w:World):(Instr.buildSlice 141 1 [(0,.agg #[a,b,c])].toArray).run prog w= .ok (.slice (some ⟨w.heap.size,0,none⟩) 1 1) (w.alloc (.cells [a,b,c].toArray 248)):=by kernel_rfl
theorem Bb5 (a:Int) (w:World):(Instr.build 248 [(0,.int .u8 a)].toArray).run prog w= .ok (.agg [.int .u8 a,.string (bs []),.int .u64 0].toArray) w:=by kernel_rfl
instance C85:Fnc prog 85 f85 21:={}
instance F248_0:Fld prog 248 0 0:={}
theorem Bc4 (a:Int) (w:World):(Instr.buildSlice 70 1 [(0,.int .u8 a)].toArray).run prog w= .ok (.slice (some ⟨w.heap.size,0,none⟩) 1 1) (w.alloc (.cells [.int .u8 a].toArray 5)):=by kernel_rfl
instance C144:Fnc prog 144 f144 76:={}
instance F248_1:Fld prog 248 1 1:={}
instance F248_2:Fld prog 248 2 2:={}
instance I152:Inf prog 152 (.agg #[.int .i64 0,.string (bs []),.bool false,.int .u64 0,.int .u64 0,.int .u64 0,.slice none 0 0,.int .i64 0,.string (bs [])]) 9 104:={}
instance C86:Fnc prog 86 f86 89:={}
instance F152_0:Fld prog 152 0 0:={}
instance F152_1:Fld prog 152 1 8:={}
instance C40:Fnc prog 40 f40 32:={}
instance C42:Fnc prog 42 f42 96:={}
instance F139_2:Fld prog 139 2 4:={}
instance F139_0:Fld prog 139 0 0:={}
instance F139_1:Fld prog 139 1 3:={}
theorem BbS (a b c d e f g h i:Value) (w:World):(Instr.buildSlice 137 1 [(0,.agg #[a,b,c,d,e,f,g,h,i])].toArray).run prog w= .ok (.slice (some ⟨w.heap.size,0,none⟩) 1 1) (w.alloc (.cells [a,b,c,d,e,f,g,h,i].toArray 152)):=by kernel_rfl
instance I137:Inf prog 137 (.slice none 0 0) 1 24:={}
instance C11:Fnc prog 11 f11 139:={}
theorem Bbu (w:World):(Instr.build 139 [].toArray).run prog w= .ok (.agg [.string (bs []),.slice none 0 0,.slice none 0 0,.slice none 0 0,.bool false].toArray) w:=by kernel_rfl
instance I5:Inf prog 5 (.int .u8 0) 1 1:={}
instance I70:Inf prog 70 (.slice none 0 0) 1 24:={}
instance C178:Fnc prog 178 f178 22:={}
instance C127:Fnc prog 127 f127 86:={}
instance C70:Fnc prog 70 f70 67:={}
instance C190:Fnc prog 190 f190 16:={}
instance F376_0:Fld prog 376 0 0:={}
instance F376_1:Fld prog 376 1 1:={}
instance C187:Fnc prog 187 f187 22:={}
instance F376_3:Fld prog 376 3 3:={}
instance C145:Fnc prog 145 f145 27:={}
instance F376_2:Fld prog 376 2 2:={}
instance C90:Fnc prog 90 f90 21:={}
instance C188:Fnc prog 188 f188 91:={}
instance I210:Inf prog 210 (.agg #[.int .i64 0,.int .u64 0,.int .u64 0]) 3 24:={}
instance F210_0:Fld prog 210 0 0:={}
instance F210_1:Fld prog 210 1 1:={}
theorem Bbg (a:Int) (b:Bool) (c:Int) (d:Int) (w:World):(Instr.build 409 [(0,.int .i64 a),(1,.bool b),(2,.int .u64 c),(3,.int .u64 d)].toArray).run prog w= .ok (.agg [.int .i64 a,.bool b,.int .u64 c,.int .u64 d].toArray) w:=by kernel_rfl
theorem Bbd (a b c d:Value) (w:World):(Instr.buildSlice 243 1 [(0,.agg #[a,b,c,d])].toArray).run prog w= .ok (.slice (some ⟨w.heap.size,0,none⟩) 1 1) (w.alloc (.cells [a,b,c,d].toArray 409)):=by kernel_rfl
instance I409:Inf prog 409 (.agg #[.int .i64 0,.bool false,.int .u64 0,.int .u64 0]) 4 32:={}
instance F210_2:Fld prog 210 2 2:={}
instance C141:Fnc prog 141 f141 21:={}
instance C204:Fnc prog 204 f204 8:={}
theorem BaG (w:World):(Instr.buildSlice 24 0 [].toArray).run prog w= .ok (.slice (some ⟨w.heap.size,0,none⟩) 0 0) (w.alloc (.cells [].toArray 210)):=by kernel_rfl
instance C152:Fnc prog 152 f152 8:={}
theorem BcB (w:World):(Instr.buildSlice 51 0 [].toArray).run prog w= .ok (.slice (some ⟨w.heap.size,0,none⟩) 0 0) (w.alloc (.cells [].toArray 3)):=by kernel_rfl
instance C206:Fnc prog 206 f206 19:={}
theorem kWK:prog.stoodInHeld 227=false:=by kernel_rfl
theorem kV9 (d:Nat) (a:Int) (b:Int) (c:Int) (e:Int) (w:World):(Op.equalIn (d+2) 227 (.agg #[.int .i64 a,.int .i64 c]) (.agg #[.int .i64 b,.int .i64 e])).run prog w= .ok (decide (a=b∧c=e)) w:=by
 have f: ∀w,(part 3 #[.int .i64 a,.int .i64 c] 0).run prog w= .ok (.int .i64 a) w:=fun w=>by kernel_rfl
 have g: ∀w,(part 3 #[.int .i64 b,.int .i64 e] 0).run prog w= .ok (.int .i64 b) w:=fun w=>by kernel_rfl
 have h: ∀w,(part 3 #[.int .i64 a,.int .i64 c] 1).run prog w= .ok (.int .i64 c) w:=fun w=>by kernel_rfl
 have i: ∀w,(part 3 #[.int .i64 b,.int .i64 e] 1).run prog w= .ok (.int .i64 e) w:=fun w=>by kernel_rfl
 rw[Op.equalIn];simp only[Sem.run_bind,run_underlying underlying227,Result.andThen_ok];simp[kWK,f,g,h,i,kCD d underlying3]
 (repeat' split)<;>simp_all
instance C155:Fnc prog 155 f155 63:={}
instance I227:Inf prog 227 (.agg #[.int .i64 0,.int .i64 0]) 2 16:={}
instance F227_0:Fld prog 227 0 0:={}
instance F227_1:Fld prog 227 1 1:={}
instance C205:Fnc prog 205 f205 47:={}
instance I51:Inf prog 51 (.slice none 0 0) 1 24:={}
theorem Bb8 (a:Int) (w:World):(Instr.buildSlice 51 1 [(0,.int .i64 a)].toArray).run prog w= .ok (.slice (some ⟨w.heap.size,0,none⟩) 1 1) (w.alloc (.cells [.int .i64 a].toArray 3)):=by kernel_rfl
instance C156:Fnc prog 156 f156 62:={}
instance C203:Fnc prog 203 f203 18:={}
instance C154:Fnc prog 154 f154 66:={}
theorem BbH (a:Int) (b:Int) (w:World):(Instr.build 227 [(0,.int .i64 a),(1,.int .i64 b)].toArray).run prog w= .ok (.agg [.int .i64 a,.int .i64 b].toArray) w:=by kernel_rfl
theorem BbE (a b:Value) (w:World):(Instr.buildSlice 222 1 [(0,.agg #[a,b])].toArray).run prog w= .ok (.slice (some ⟨w.heap.size,0,none⟩) 1 1) (w.alloc (.cells [a,b].toArray 227)):=by kernel_rfl
theorem BbM (g:Option Addr) (a b:Nat) (h:Option Addr) (c d:Nat) (i:Option Addr) (e f:Nat) (w:World):(Instr.build 376 [(0,.slice g a b),(1,.slice h c d),(2,.slice i e f)].toArray).run prog w= .ok (.agg [.slice g a b,.slice h c d,.slice i e f,.int .u64 0].toArray) w:=by kernel_rfl
instance C134:Fnc prog 134 f134 84:={}
theorem BbB (g:Option Addr) (a b:Nat) (h:Option Addr) (c d:Nat) (i:Option Addr) (e f:Nat) (w:World):(Instr.build 368 [(0,.slice g a b),(1,.slice h c d),(2,.slice i e f)].toArray).run prog w= .ok (.agg [.slice g a b,.slice h c d,.slice i e f,.int .u64 0].toArray) w:=by kernel_rfl
instance C30:Fnc prog 30 f30 79:={}
theorem BcA (a:Int) (b:Int) (c:Int) (w:World):(Instr.build 210 [(0,.int .i64 a),(1,.int .u64 b),(2,.int .u64 c)].toArray).run prog w= .ok (.agg [.int .i64 a,.int .u64 b,.int .u64 c].toArray) w:=by kernel_rfl
theorem Baf (a b c:Value) (w:World):(Instr.buildSlice 24 1 [(0,.agg #[a,b,c])].toArray).run prog w= .ok (.slice (some ⟨w.heap.size,0,none⟩) 1 1) (w.alloc (.cells [a,b,c].toArray 210)):=by kernel_rfl
instance C102:Fnc prog 102 f102 9:={}
instance C104:Fnc prog 104 f104 9:={}
instance C157:Fnc prog 157 f157 9:={}
instance F173_0:Fld prog 173 0 0:={}
instance F173_1:Fld prog 173 1 1:={}
instance C103:Fnc prog 103 f103 18:={}
instance I173:Inf prog 173 (.agg #[.int .u64 0,.int .u64 0]) 2 16:={}
instance C106:Fnc prog 106 f106 17:={}
instance C159:Fnc prog 159 f159 15:={}
instance I280:Inf prog 280 (.pointer none) 1 8:={}
instance F279_0:Fld prog 279 0 0:={}
instance C158:Fnc prog 158 f158 26:={}
instance C105:Fnc prog 105 f105 18:={}
instance F168_0:Fld prog 168 0 0:={}
instance I164:Inf prog 164 (.slice none 0 0) 1 24:={}
instance C192:Fnc prog 192 f192 50:={}
instance F279_1:Fld prog 279 1 2:={}
instance C17:Fnc prog 17 f17 3:={}
theorem Bbj (w:World):(Instr.build 168 [].toArray).run prog w= .ok (.agg [.slice none 0 0,.slice none 0 0,.slice none 0 0,.int .i64 0,.bool false,.bool false,.bool false,.bool false,.bool false,.bool false,.bool false,.bool false,.bool false,.bool false,.bool false,.bool false,.bool false,.bool false,.bool false,.bool false,.bool false,.bool false,.bool false,.bool false,.bool false,.bool false,.bool false,.bool false,.bool false,.bool false,.bool false,.bool false,.bool false,.bool false,.bool false,.bool false,.bool false,.bool false,.bool false,.bool false,.bool false,.bool false,.bool false,.bool false,.bool false,.bool false,.bool false,.bool false,.bool false,.bool false,.bool false,.bool false,.bool false,.bool false,.bool false,.bool false,.bool false,.bool false,.bool false,.bool false,.bool false,.bool false,.bool false,.bool false,.bool false,.bool false,.bool false,.bool false,.bool false,.bool false,.bool false,.bool false,.bool false,.bool false,.bool false,.bool false,.bool false,.bool false,.bool false,.bool false,.bool false,.bool false,.bool false,.bool false,.bool false,.bool false,.bool false,.bool false,.bool false,.bool false,.bool false,.bool false,.bool false,.bool false,.bool false,.bool false,.bool false,.bool false,.bool false,.bool false,.bool false,.bool false,.bool false,.bool false,.bool false,.bool false,.bool false,.bool false,.bool false,.bool false,.bool false,.bool false,.bool false,.bool false,.bool false,.bool false,.bool false,.bool false,.bool false,.bool false,.bool false,.bool false,.bool false,.bool false,.bool false,.bool false,.bool false,.bool false,.bool false,.bool false,.bool false,.bool false,.bool false,.bool false,.bool false,.bool false,.bool false,.bool false,.bool false,.bool false,.bool false,.bool false,.bool false,.bool false,.bool false,.bool false,.bool false,.bool false,.bool false,.bool false,.bool false,.bool false,.bool false,.bool false,.bool false,.bool false,.bool false,.bool false,.bool false,.bool false,.bool false,.bool false,.bool false,.bool false,.bool false,.bool false,.bool false,.bool false,.bool false,.bool false,.bool false,.bool false,.bool false,.bool false,.bool false,.bool false,.bool false,.bool false,.bool false,.bool false,.bool false,.bool false,.bool false,.bool false,.bool false,.bool false,.bool false,.bool false,.bool false,.bool false,.bool false,.bool false,.bool false,.bool false,.bool false,.bool false,.bool false,.bool false,.bool false,.bool false,.bool false,.bool false,.bool false,.bool false,.bool false,.bool false,.bool false,.bool false,.bool false,.bool false,.bool false,.bool false,.bool false,.bool false,.bool false,.bool false,.bool false,.bool false,.bool false,.bool false,.bool false,.bool false,.bool false,.bool false,.bool false,.bool false,.bool false,.bool false,.bool false,.bool false,.bool false,.bool false,.bool false,.bool false,.bool false,.bool false,.bool false,.bool false,.bool false,.bool false,.bool false,.bool false,.bool false,.bool false,.bool false,.bool false,.bool false,.bool false,.bool false,.bool false,.bool false,.bool false,.bool false,.bool false,.bool false,.bool false,.bool false,.bool false,.bool false,.bool false,.slice none 0 0,.slice none 0 0].toArray) w:=by kernel_rfl
instance C55:Fnc prog 55 f55 16:={}
instance F168_2:Fld prog 168 2 4:={}
instance I115:Inf prog 115 (.slice none 0 0) 1 24:={}
instance F168_4:Fld prog 168 4 261:={}
instance I166:Inf prog 166 (.slice none 0 0) 1 24:={}
instance F168_3:Fld prog 168 3 260:={}
instance I411:Inf prog 411 (.agg #[.int .i64 0,.int .u64 0,.int .u64 0,.int .i64 0]) 4 32:={}
theorem X49a:(f160.name== "runtime.NumGoroutine")=false:=by kernel_rfl
theorem X49b:f160.body.isNone=true:=by kernel_rfl
theorem X49c:Extern.findNext f160=none:=by kernel_rfl
theorem X49d:Extern.find f160=some (Extern.SlicesOverlaps.overlaps #[164,164] #[4]):=by kernel_rfl
instance C107:Fnc prog 107 f107 95:={}
instance C53:Fnc prog 53 f53 83:={}
instance F168_1:Fld prog 168 1 3:={}
theorem Bbf (a b:Value) (c:Int) (w:World):(Instr.build 279 [(0,.agg #[a,b]),(1,.int .i64 c)].toArray).run prog w= .ok (.agg [a,b,.int .i64 c,.slice none 0 0].toArray) w:=by kernel_rfl
theorem BbL (a:Option Addr) (w:World):(Instr.buildSlice 164 1 [(0,.pointer a)].toArray).run prog w= .ok (.slice (some ⟨w.heap.size,0,none⟩) 1 1) (w.alloc (.cells [.pointer a].toArray 280)):=by kernel_rfl
instance C195:Fnc prog 195 f195 42:={}
instance F279_2:Fld prog 279 2 3:={}
instance C194:Fnc prog 194 f194 48:={}
instance C219:Fnc prog 219 f219 33:={}
instance C191:Fnc prog 191 f191 22:={}
instance F333_2:Fld prog 333 2 2:={}
instance F333_0:Fld prog 333 0 0:={}
instance F333_1:Fld prog 333 1 1:={}
instance C193:Fnc prog 193 f193 62:={}
theorem BbV (a:Int) (b:Int) (w:World):(Instr.build 173 [(0,.int .u64 a),(1,.int .u64 b)].toArray).run prog w= .ok (.agg [.int .u64 a,.int .u64 b].toArray) w:=by kernel_rfl
instance F411_0:Fld prog 411 0 0:={}
instance F411_1:Fld prog 411 1 1:={}
instance F411_2:Fld prog 411 2 3:={}
instance C147:Fnc prog 147 f147 130:={}
instance I333:Inf prog 333 (.agg #[.int .i64 0,.int .u64 0,.int .i64 0,.bool false,.int .u64 0]) 5 40:={}
theorem Bc6 (a b c d e:Value) (f:Int) (w:World):(Instr.build 381 [(0,.agg #[a,b,c,d,e]),(1,.int .i64 f)].toArray).run prog w= .ok (.agg [a,b,c,d,e,.int .i64 f,.bool false,.bool false].toArray) w:=by kernel_rfl
instance I381:Inf prog 381 (.agg #[.int .i64 0,.int .u64 0,.int .i64 0,.bool false,.int .u64 0,.int .i64 0,.bool false,.bool false]) 8 56:={}
instance F381_1:Fld prog 381 1 5:={}
instance F381_2:Fld prog 381 2 6:={}
instance F381_3:Fld prog 381 3 7:={}
instance F333_3:Fld prog 333 3 3:={}
instance F333_4:Fld prog 333 4 4:={}
instance F381_0:Fld prog 381 0 0:={}
theorem Bbh (a b c d e f g h:Value) (w:World):(Instr.buildSlice 115 1 [(0,.agg #[a,b,c,d,e,f,g,h])].toArray).run prog w= .ok (.slice (some ⟨w.heap.size,0,none⟩) 1 1) (w.alloc (.cells [a,b,c,d,e,f,g,h].toArray 381)):=by kernel_rfl
instance C130:Fnc prog 130 f130 9:={}
instance C131:Fnc prog 131 f131 20:={}
instance C179:Fnc prog 179 f179 18:={}
instance C132:Fnc prog 132 f132 15:={}
instance F117_0:Fld prog 117 0 0:={}
instance I313:Inf prog 313 (.agg #[.int .i64 0,.int .u64 0,.int .u64 0,.int .i64 0,.slice none 0 0]) 5 56:={}
instance F313_0:Fld prog 313 0 0:={}
instance F313_1:Fld prog 313 1 1:={}
instance C74:Fnc prog 74 f74 19:={}
instance F117_1:Fld prog 117 1 1:={}
instance I112:Inf prog 112 (.slice none 0 0) 1 24:={}
instance C72:Fnc prog 72 f72 79:={}
theorem BbY (e:Int) (a b:Value) (f:Int) (g:Option Addr) (c d:Nat) (w:World):(Instr.build 313 [(0,.int .i64 e),(1,.agg #[a,b]),(2,.int .i64 f),(3,.slice g c d)].toArray).run prog w= .ok (.agg [.int .i64 e,a,b,.int .i64 f,.slice g c d].toArray) w:=by kernel_rfl
theorem BbU (a b c d e:Value) (w:World):(Instr.buildSlice 112 1 [(0,.agg #[a,b,c,d,e])].toArray).run prog w= .ok (.slice (some ⟨w.heap.size,0,none⟩) 1 1) (w.alloc (.cells [a,b,c,d,e].toArray 313)):=by kernel_rfl
instance U3:UN prog 3:={}
instance U4:UN prog 4:={}
instance U5:UN prog 5:={}
instance U9:UN prog 9:={}
instance Z9:UStr prog 9:={}
instance U22:UN prog 22:={}
instance S22:US prog 22 59:={}
instance U23:UN prog 23:={}
instance S23:US prog 23 48:={}
instance U24:UN prog 24:={}
instance S24:US prog 24 210:={}
instance U25:UN prog 25:={}
instance S25:US prog 25 64:={}
instance U28:UN prog 28:={}
instance S28:US prog 28 44:={}
instance U30:UA prog 30:={}
instance U32:UN prog 32:={}
instance U33:UN prog 33:={}
instance U35:UN prog 35:={}
instance U37:UA prog 37:={}
instance U41:UN prog 41:={}
instance U44:UN prog 44:={}
instance U45:UN prog 45:={}
instance S45:US prog 45 9:={}
instance U46:UN prog 46:={}
instance S46:US prog 46 150:={}
instance U48:UA prog 48:={}
instance U51:UN prog 51:={}
instance S51:US prog 51 3:={}
instance U52:UA prog 52:={}
instance U53:UA prog 53:={}
instance U55:UA prog 55:={}
instance U57:UA prog 57:={}
instance U59:UA prog 59:={}
instance U64:UA prog 64:={}
instance U67:UA prog 67:={}
instance U70:UN prog 70:={}
instance S70:US prog 70 5:={}
instance U108:UN prog 108:={}
instance S108:US prog 108 55:={}
instance U112:UN prog 112:={}
instance S112:US prog 112 313:={}
instance U113:UA prog 113:={}
instance U115:UN prog 115:={}
instance S115:US prog 115 381:={}
instance U120:UN prog 120:={}
instance U122:UN prog 122:={}
instance S122:US prog 122 131:={}
instance U123:UN prog 123:={}
instance U124:UN prog 124:={}
instance U129:UN prog 129:={}
instance U131:UA prog 131:={}
instance U132:UN prog 132:={}
instance S132:US prog 132 242:={}
instance U137:UN prog 137:={}
instance S137:US prog 137 152:={}
instance U141:UN prog 141:={}
instance S141:US prog 141 248:={}
instance U147:UA prog 147:={}
instance U148:UN prog 148:={}
instance S148:US prog 148 162:={}
instance U150:UA prog 150:={}
instance U152:UA prog 152:={}
instance U158:UA prog 158:={}
instance U162:UA prog 162:={}
instance U164:UN prog 164:={}
instance S164:US prog 164 280:={}
instance U165:UA prog 165:={}
instance U166:UN prog 166:={}
instance S166:US prog 166 411:={}
instance U173:UA prog 173:={}
instance U210:UA prog 210:={}
instance U213:UA prog 213:={}
instance U217:UN prog 217:={}
instance S217:US prog 217 4:={}
instance U218:UN prog 218:={}
instance S218:US prog 218 45:={}
instance U221:UN prog 221:={}
instance S221:US prog 221 60:={}
instance U222:UN prog 222:={}
instance S222:US prog 222 227:={}
instance U225:UN prog 225:={}
instance S225:US prog 225 57:={}
instance U227:UA prog 227:={}
instance U233:UA prog 233:={}
instance U234:UN prog 234:={}
instance S234:US prog 234 233:={}
instance U242:UA prog 242:={}
instance U243:UN prog 243:={}
instance S243:US prog 243 409:={}
instance U248:UA prog 248:={}
instance U256:UN prog 256:={}
instance U265:UN prog 265:={}
instance U280:UN prog 280:={}
instance U309:UA prog 309:={}
instance U333:UA prog 333:={}
instance U369:UN prog 369:={}
instance S369:US prog 369 217:={}
instance U381:UA prog 381:={}
instance U390:UN prog 390:={}
instance U391:UN prog 391:={}
instance S391:US prog 391 51:={}
instance U411:UA prog 411:={}
instance U418:UN prog 418:={}
instance S418:US prog 418 430:={}
instance U422:UN prog 422:={}
instance U430:UA prog 430:={}
instance U441:UN prog 441:={}
instance C100:Fnc prog 100 f100 22:={}
instance C217:Fnc prog 217 f217 55:={}
instance C181:Fnc prog 181 f181 30:={}
theorem kUx (x y:Operand) (xs ys:Array Value) (w:World):(eqGuard .eql 227 x y (.agg xs) (.agg ys)).run prog w= .ok () w:=by kernel_rfl
theorem kUy (a:Int) (b:Int) (c:Int) (d:Int) (w:World):(binOp .eql 227 (.agg #[.int .i64 a,.int .i64 b]) (.agg #[.int .i64 c,.int .i64 d])).run prog w= .ok (.bool (decide (a=c∧b=d))) w:=
 kIR (p:=a=c∧b=d) (fun _ _=>by simp) (fun _=>by simp) (fun _ _=>by simp) (fun _ _ _=>by simp) (fun w=>kV9 9998 a c b d w) w
instance C182:Fnc prog 182 f182 80:={}
instance I217:Inf prog 217 (.slice none 0 0) 1 24:={}
end Go.Proofs.YtdoihieboknmnaaGreatDoor
namespace Go.Proofs.YtdoihieboknmnaaGreatDoor
open Go
instance C135:Sv.Fnc Tryz.prog 135 Tryz.f135 29:={}
end Go.Proofs.YtdoihieboknmnaaGreatDoor
namespace Go.Proofs.YtdoihieboknmnaaGreatDoor
open Go Go.Sv Tryz
instance C184:Fnc prog 184 f184 20:={}
instance C216:Fnc prog 216 f216 20:={}
instance C244:Fnc prog 244 f244 6:={}
instance C229:Fnc prog 229 f229 17:={}
instance C226:Fnc prog 226 f226 21:={}
instance C202:Fnc prog 202 f202 17:={}
instance F55_2:Fld prog 55 2 5:={}
instance I52:Inf prog 52 (.agg #[.slice none 0 0,.slice none 0 0,.slice none 0 0,.slice none 0 0]) 4 96:={}
instance C201:Fnc prog 201 f201 35:={}
instance F55_1:Fld prog 55 1 1:={}
instance C153:Fnc prog 153 f153 64:={}
instance I55:Inf prog 55 (.agg #[.int .i64 0,.slice none 0 0,.slice none 0 0,.slice none 0 0,.slice none 0 0,.int .i64 0,.int .i64 0,.int .i64 0,.int .i64 0,.int .i64 0,.int .i64 0,.int .i64 0,.int .i64 0]) 13 168:={}
instance F55_0:Fld prog 55 0 0:={}
instance F55_4:Fld prog 55 4 12:={}
instance F55_3:Fld prog 55 3 11:={}
instance C180:Fnc prog 180 f180 115:={}
instance C133:Fnc prog 133 f133 31:={}
instance C98:Fnc prog 98 f98 70:={}
theorem Bbk (a:Option Addr) (w:World):(Instr.build 258 [(2,.pointer a)].toArray).run prog w= .ok (.agg [.slice none 0 0,.slice none 0 0,.pointer a,.int .u64 0].toArray) w:=by kernel_rfl
instance F258_0:Fld prog 258 0 0:={}
theorem BbD (d e f g h i j k l m a b c:Value) (w:World):(Instr.buildSlice 108 1 [(0,.agg #[d,e,f,g,h,i,j,k,l,m,a,b,c])].toArray).run prog w= .ok (.slice (some ⟨w.heap.size,0,none⟩) 1 1) (w.alloc (.cells [d,e,f,g,h,i,j,k,l,m,a,b,c].toArray 55)):=by kernel_rfl
instance I108:Inf prog 108 (.slice none 0 0) 1 24:={}
instance F258_1:Fld prog 258 1 1:={}
end Go.Proofs.YtdoihieboknmnaaGreatDoor
namespace Go.Proofs.YtdoihieboknmnaaGreatDoor
open Go
instance C75:Sv.Fnc Tryz.prog 75 Tryz.f75 46:={}
theorem Bc5 (c:Option Addr) (a b:Nat) (d:Option Addr) (w:World):(Instr.build 319 [(0,.slice c a b),(1,.pointer d)].toArray).run Tryz.prog w= .ok (.agg [.slice c a b,.pointer d,.slice none 0 0,.int .u64 0].toArray) w:=by kernel_rfl
instance F319_2:Sv.Fld Tryz.prog 319 2 2:={}
end Go.Proofs.YtdoihieboknmnaaGreatDoor
namespace Go.Proofs.YtdoihieboknmnaaGreatDoor
open Go Go.Sv Tryz
instance C54:Fnc prog 54 f54 5:={}
instance C73:Fnc prog 73 f73 5:={}
instance C199:Fnc prog 199 f199 10:={}
instance C128:Fnc prog 128 f128 16:={}
instance C150:Fnc prog 150 f150 6:={}
instance C197:Fnc prog 197 f197 19:={}
instance C149:Fnc prog 149 f149 9:={}
instance C96:Fnc prog 96 f96 6:={}
end Go.Proofs.YtdoihieboknmnaaGreatDoor
namespace Go.Proofs.YtdoihieboknmnaaGreatDoor
open Go
instance C129:Sv.Fnc Tryz.prog 129 Tryz.f129 53:={}
instance C151:Sv.Fnc Tryz.prog 151 Tryz.f151 51:={}
end Go.Proofs.YtdoihieboknmnaaGreatDoor
namespace Go.Proofs.YtdoihieboknmnaaGreatDoor
open Go Go.Sv Tryz
instance C101:Fnc prog 101 f101 44:={}
instance I59:Inf prog 59 (.agg #[.int .i64 0,.int .i64 0,.slice none 0 0,.slice none 0 0,.slice none 0 0,.slice none 0 0,.int .i64 0,.int .i64 0,.int .i64 0,.int .i64 0,.int .i64 0,.int .i64 0,.int .i64 0,.int .i64 0,.int .i64 0,.slice none 0 0,.int .u64 0,.string (bs [])]) 18 232:={}
instance F59_2:Fld prog 59 2 14:={}
instance F57_0:Fld prog 57 0 0:={}
instance F57_1:Fld prog 57 1 1:={}
end Go.Proofs.YtdoihieboknmnaaGreatDoor
namespace Go.Proofs.YtdoihieboknmnaaGreatDoor
open Go
instance C68:Sv.Fnc Tryz.prog 68 Tryz.f68 37:={}
instance C33:Sv.Fnc Tryz.prog 33 Tryz.f33 14:={}
instance C12:Sv.Fnc Tryz.prog 12 Tryz.f12 13:={}
theorem Bbs (a b c:Value) (d:Int) (w:World):(Instr.build 73 [(0,.agg #[a,b,c]),(2,.int .i64 d)].toArray).run Tryz.prog w= .ok (.agg [a,b,c,.int .i64 0,.int .i64 d,.string (Sv.bs [])].toArray) w:=by kernel_rfl
instance C4:Sv.Fnc Tryz.prog 4 Tryz.f4 82:={}
instance F59_1:Sv.Fld Tryz.prog 59 1 1:={}
instance F59_3:Sv.Fld Tryz.prog 59 3 17:={}
instance F126_4:Sv.Fld Tryz.prog 126 4 4:={}
instance F224_10:Sv.Fld Tryz.prog 224 10 10:={}
end Go.Proofs.YtdoihieboknmnaaGreatDoor
namespace Go.Proofs.YtdoihieboknmnaaGreatDoor
open Go Go.Sv Tryz
instance C76:Fnc prog 76 f76 116:={}
theorem BbN (i:Option Addr) (a b:Nat) (j:Option Addr) (c d:Nat) (k:Option Addr) (e f:Nat) (l:Option Addr) (g h:Nat) (w:World):(Instr.build 321 [(0,.slice i a b),(2,.slice j c d),(3,.slice k e f),(4,.slice l g h)].toArray).run prog w= .ok (.agg [.slice i a b,.slice none 0 0,.slice j c d,.slice k e f,.slice l g h,.int .u64 0].toArray) w:=by kernel_rfl
instance I57:Inf prog 57 (.agg #[.int .i64 0,.slice none 0 0,.int .u64 0]) 3 40:={}
instance F57_2:Fld prog 57 2 2:={}
instance F321_1:Fld prog 321 1 1:={}
instance I222:Inf prog 222 (.slice none 0 0) 1 24:={}
instance C99:Fnc prog 99 f99 177:={}
instance I233:Inf prog 233 (.agg #[.slice none 0 0,.slice none 0 0,.int .u64 0,.bool false,.int .i64 0,.int .u64 0]) 6 80:={}
theorem Bbz (e:Option Addr) (a b:Nat) (f:Option Addr) (c d:Nat) (w:World):(Instr.build 236 [(0,.slice e a b),(1,.slice f c d)].toArray).run prog w= .ok (.agg [.slice e a b,.slice f c d,.int .u64 0].toArray) w:=by kernel_rfl
instance F236_0:Fld prog 236 0 0:={}
instance F233_2:Fld prog 233 2 2:={}
instance F233_0:Fld prog 233 0 0:={}
instance F233_1:Fld prog 233 1 1:={}
instance I131:Inf prog 131 (.agg #[.int .i64 0,.int .i64 0,.slice none 0 0,.slice none 0 0,.slice none 0 0,.slice none 0 0,.int .i64 0,.int .i64 0,.int .i64 0,.int .i64 0,.int .i64 0,.int .i64 0,.int .i64 0,.int .i64 0,.int .u64 0,.pointer none,.bool false,.slice none 0 0,.bool false,.int .i64 0]) 20 240:={}
instance C97:Fnc prog 97 f97 75:={}
instance F59_0:Fld prog 59 0 0:={}
theorem BbJ (w:World):(Instr.build 131 [].toArray).run prog w= .ok (.agg [.int .i64 0,.int .i64 0,.slice none 0 0,.slice none 0 0,.slice none 0 0,.slice none 0 0,.int .i64 0,.int .i64 0,.int .i64 0,.int .i64 0,.int .i64 0,.int .i64 0,.int .i64 0,.int .i64 0,.int .u64 0,.pointer none,.bool false,.slice none 0 0,.bool false,.int .i64 0].toArray) w:=by kernel_rfl
theorem Bc3 (n:Int) (d e f g h i j k l m a b c:Value) (o:Int) (p:Option Addr) (q:Int) (w:World):(Instr.build 131 [(0,.int .i64 n),(1,.agg #[d,e,f,g,h,i,j,k,l,m,a,b,c]),(2,.int .u64 o),(3,.pointer p),(7,.int .i64 q)].toArray).run prog w= .ok (.agg [.int .i64 n,d,e,f,g,h,i,j,k,l,m,a,b,c,.int .u64 o,.pointer p,.bool false,.slice none 0 0,.bool false,.int .i64 q].toArray) w:=by kernel_rfl
instance C52:Fnc prog 52 f52 121:={}
theorem Bc1 (a:Option Addr) (w:World):(Instr.build 126 [(3,.pointer a)].toArray).run prog w= .ok (.agg [.slice none 0 0,.pointer none,.pointer none,.pointer a,.slice none 0 0].toArray) w:=by kernel_rfl
instance F131_0:Fld prog 131 0 0:={}
instance F126_0:Fld prog 126 0 0:={}
theorem Bba (k l m n o p q r s t a b c d e f g h i j:Value) (w:World):(Instr.buildSlice 122 1 [(0,.agg #[k,l,m,n,o,p,q,r,s,t,a,b,c,d,e,f,g,h,i,j])].toArray).run prog w= .ok (.slice (some ⟨w.heap.size,0,none⟩) 1 1) (w.alloc (.cells [k,l,m,n,o,p,q,r,s,t,a,b,c,d,e,f,g,h,i,j].toArray 131)):=by kernel_rfl
instance I122:Inf prog 122 (.slice none 0 0) 1 24:={}
theorem BbI (a b c:Value) (w:World):(Instr.buildSlice 225 1 [(0,.agg #[a,b,c])].toArray).run prog w= .ok (.slice (some ⟨w.heap.size,0,none⟩) 1 1) (w.alloc (.cells [a,b,c].toArray 57)):=by kernel_rfl
instance F126_1:Fld prog 126 1 1:={}
instance I123:Inf prog 123 (.pointer none) 1 8:={}
instance F126_2:Fld prog 126 2 2:={}
instance I124:Inf prog 124 (.pointer none) 1 8:={}
end Go.Proofs.YtdoihieboknmnaaGreatDoor
namespace Go.Proofs.YtdoihieboknmnaaGreatDoor
open Go
instance C18:Sv.Fnc Tryz.prog 18 Tryz.f18 50:={}
instance F131_2:Sv.Fld Tryz.prog 131 2 14:={}
instance C71:Sv.Fnc Tryz.prog 71 Tryz.f71 133:={}
end Go.Proofs.YtdoihieboknmnaaGreatDoor
namespace Go.Proofs.YtdoihieboknmnaaGreatDoor
open Go Go.Sv Tryz
instance C34:Fnc prog 34 f34 166:={}
theorem Bbv (m:Option Addr) (a b:Nat) (n:Option Addr) (c d:Nat) (o:Option Addr) (p:Option Addr) (e f:Nat) (q:Option Addr) (g h:Nat) (r:Option Addr) (i j:Nat) (s:Option Addr) (k l:Nat) (w:World):(Instr.build 224 [(0,.slice m a b),(1,.slice n c d),(2,.pointer o),(6,.slice p e f),(7,.slice q g h),(8,.slice r i j),(9,.slice s k l)].toArray).run prog w= .ok (.agg [.slice m a b,.slice n c d,.pointer o,.pointer none,.pointer none,.slice none 0 0,.slice p e f,.slice q g h,.slice r i j,.slice s k l,.slice none 0 0].toArray) w:=by kernel_rfl
instance F224_9:Fld prog 224 9 9:={}
instance F224_5:Fld prog 224 5 5:={}
theorem Bc0 (a:Option Addr) (w:World):(Instr.buildSlice 221 1 [(0,.pointer a)].toArray).run prog w= .ok (.slice (some ⟨w.heap.size,0,none⟩) 1 1) (w.alloc (.cells [.pointer a].toArray 60)):=by kernel_rfl
instance I60:Inf prog 60 (.pointer none) 1 8:={}
instance I221:Inf prog 221 (.slice none 0 0) 1 24:={}
instance F224_3:Fld prog 224 3 3:={}
instance I219:Inf prog 219 (.pointer none) 1 8:={}
instance F224_4:Fld prog 224 4 4:={}
instance I220:Inf prog 220 (.pointer none) 1 8:={}
end Go.Proofs.YtdoihieboknmnaaGreatDoor
namespace Go.Proofs.YtdoihieboknmnaaGreatDoor
open Go
instance C31:Sv.Fnc Tryz.prog 31 Tryz.f31 88:={}
theorem BbR (a:Int) (b:Int) (c:Int) (w:World):(Instr.build 55 [(0,.int .i64 a),(4,.int .i64 b),(3,.int .i64 c)].toArray).run Tryz.prog w= .ok (.agg [.int .i64 a,.slice none 0 0,.slice none 0 0,.slice none 0 0,.slice none 0 0,.int .i64 0,.int .i64 0,.int .i64 0,.int .i64 0,.int .i64 0,.int .i64 0,.int .i64 c,.int .i64 b].toArray) w:=by kernel_rfl
instance C32:Sv.Fnc Tryz.prog 32 Tryz.f32 75:={}
end Go.Proofs.YtdoihieboknmnaaGreatDoor
namespace Go.Proofs.YtdoihieboknmnaaGreatDoor
open Go Go.Sv Tryz
instance I30:Inf prog 30 (.agg #[.slice none 0 0,.slice none 0 0,.slice none 0 0]) 3 72:={}
instance C6:Fnc prog 6 f6 169:={}
theorem Bai (c:Option Addr) (a b:Nat) (w:World):(Instr.build 30 [(1,.slice c a b)].toArray).run prog w= .ok (.agg [.slice none 0 0,.slice c a b,.slice none 0 0].toArray) w:=by kernel_rfl
instance F30_1:Fld prog 30 1 1:={}
theorem Bbw (a:Int) (b:Int) (w:World):(Instr.build 57 [(0,.int .i64 a),(2,.int .u64 b)].toArray).run prog w= .ok (.agg [.int .i64 a,.slice none 0 0,.int .u64 b].toArray) w:=by kernel_rfl
theorem BbX (q:Int) (d e f g h i j k l m a b c:Value) (n o p:Value) (w:World):(Instr.build 59 [(0,.int .i64 q),(1,.agg #[d,e,f,g,h,i,j,k,l,m,a,b,c]),(2,.agg #[n,o,p])].toArray).run prog w= .ok (.agg [.int .i64 q,d,e,f,g,h,i,j,k,l,m,a,b,c,n,o,p,.string (bs [])].toArray) w:=by kernel_rfl
instance F30_0:Fld prog 30 0 0:={}
theorem Baz (i j k l m n o p q r a b c d e f g h:Value) (w:World):(Instr.buildSlice 22 1 [(0,.agg #[i,j,k,l,m,n,o,p,q,r,a,b,c,d,e,f,g,h])].toArray).run prog w= .ok (.slice (some ⟨w.heap.size,0,none⟩) 1 1) (w.alloc (.cells [i,j,k,l,m,n,o,p,q,r,a,b,c,d,e,f,g,h].toArray 59)):=by kernel_rfl
instance I22:Inf prog 22 (.slice none 0 0) 1 24:={}
instance F30_2:Fld prog 30 2 2:={}
theorem BaV (a:Int) (w:World):(Instr.buildSlice 28 1 [(0,.int .u64 a)].toArray).run prog w= .ok (.slice (some ⟨w.heap.size,0,none⟩) 1 1) (w.alloc (.cells [.int .u64 a].toArray 44)):=by kernel_rfl
instance I28:Inf prog 28 (.slice none 0 0) 1 24:={}
instance C35:Fnc prog 35 f35 16:={}
instance C89:Fnc prog 89 f89 16:={}
instance C77:Fnc prog 77 f77 16:={}
instance C45:Fnc prog 45 f45 16:={}
instance C46:Fnc prog 46 f46 54:={}
instance C36:Fnc prog 36 f36 17:={}
instance F233_4:Fld prog 233 4 4:={}
instance C14:Fnc prog 14 f14 48:={}
instance I67:Inf prog 67 (.agg #[.int .i64 0,.bool false,.int .i64 0,.int .i64 0,.int .i64 0,.int .u64 0]) 6 48:={}
instance F131_3:Fld prog 131 3 15:={}
instance F131_5:Fld prog 131 5 17:={}
theorem Bbn (a:Int) (b:Bool) (c:Int) (d:Int) (e:Int) (f:Int) (w:World):(Instr.build 67 [(0,.int .i64 a),(1,.bool b),(2,.int .i64 c),(3,.int .i64 d),(4,.int .i64 e),(5,.int .u64 f)].toArray).run prog w= .ok (.agg [.int .i64 a,.bool b,.int .i64 c,.int .i64 d,.int .i64 e,.int .u64 f].toArray) w:=by kernel_rfl
instance C7:Fnc prog 7 f7 59:={}
instance I37:Inf prog 37 (.agg #[.pointer none,.pointer none,.pointer none,.pointer none,.int .i64 0]) 5 40:={}
instance F37_1:Fld prog 37 1 1:={}
instance F37_3:Fld prog 37 3 3:={}
instance F37_0:Fld prog 37 0 0:={}
instance I32:Inf prog 32 (.pointer none) 1 8:={}
instance F37_2:Fld prog 37 2 2:={}
instance I34:Inf prog 34 (.pointer none) 1 8:={}
theorem BaK (a:Option Addr) (b:Option Addr) (c:Int) (w:World):(Instr.build 37 [(1,.pointer a),(3,.pointer b),(4,.int .i64 c)].toArray).run prog w= .ok (.agg [.pointer none,.pointer a,.pointer none,.pointer b,.int .i64 c].toArray) w:=by kernel_rfl
instance C95:Fnc prog 95 f95 18:={}
instance F73_2:Fld prog 73 2 4:={}
instance F73_1:Fld prog 73 1 3:={}
instance C94:Fnc prog 94 f94 61:={}
instance F73_0:Fld prog 73 0 0:={}
instance F73_3:Fld prog 73 3 5:={}
instance C50:Fnc prog 50 f50 18:={}
instance C51:Fnc prog 51 f51 43:={}
instance C138:Fnc prog 138 f138 39:={}
instance F233_3:Fld prog 233 3 3:={}
instance C136:Fnc prog 136 f136 32:={}
instance C80:Fnc prog 80 f80 64:={}
instance C79:Fnc prog 79 f79 15:={}
instance F236_2:Fld prog 236 2 2:={}
instance C81:Fnc prog 81 f81 58:={}
instance F236_1:Fld prog 236 1 1:={}
instance C38:Fnc prog 38 f38 82:={}
theorem Bbr (a:Int) (b:Bool) (c:Int) (w:World):(Instr.build 242 [(0,.int .i64 a),(1,.bool b),(2,.int .u64 c)].toArray).run prog w= .ok (.agg [.int .i64 a,.bool b,.int .u64 c].toArray) w:=by kernel_rfl
theorem Bc2 (a b c:Value) (w:World):(Instr.buildSlice 132 1 [(0,.agg #[a,b,c])].toArray).run prog w= .ok (.slice (some ⟨w.heap.size,0,none⟩) 1 1) (w.alloc (.cells [a,b,c].toArray 242)):=by kernel_rfl
instance I242:Inf prog 242 (.agg #[.int .i64 0,.bool false,.int .u64 0]) 3 24:={}
instance C139:Fnc prog 139 f139 9:={}
instance C183:Fnc prog 183 f183 11:={}
instance C218:Fnc prog 218 f218 54:={}
instance C185:Fnc prog 185 f185 30:={}
instance C186:Fnc prog 186 f186 28:={}
instance C140:Fnc prog 140 f140 45:={}
instance C82:Fnc prog 82 f82 168:={}
instance F258_3:Fld prog 258 3 3:={}
instance F258_2:Fld prog 258 2 2:={}
theorem T37:f37.ntmps=18:=by kernel_rfl
instance C39:Fnc prog 39 f39 27:={}
instance F242_1:Fld prog 242 1 1:={}
instance F242_0:Fld prog 242 0 0:={}
instance C10:Fnc prog 10 f10 37:={}
theorem T10:f10.ntmps=37:=by kernel_rfl
instance C9:Fnc prog 9 f9 41:={}
instance C48:Fnc prog 48 f48 25:={}
instance F131_4:Fld prog 131 4 16:={}
instance C92:Fnc prog 92 f92 60:={}
theorem Bbp (a:Int) (b:Int) (c:Int) (d:Bool) (w:World):(Instr.build 333 [(0,.int .i64 a),(1,.int .u64 b),(2,.int .i64 c),(3,.bool d)].toArray).run prog w= .ok (.agg [.int .i64 a,.int .u64 b,.int .i64 c,.bool d,.int .u64 0].toArray) w:=by kernel_rfl
instance C49:Fnc prog 49 f49 43:={}
instance C15:Fnc prog 15 f15 55:={}
theorem T15:f15.ntmps=55:=by kernel_rfl
instance C13:Fnc prog 13 f13 8:={}
theorem Bby (a:ByteArray) (b:ByteArray) (c:ByteArray) (d:ByteArray) (e:ByteArray) (f:ByteArray) (g:ByteArray) (w:World):(Instr.build 154 [(0,.string a),(1,.string b),(2,.string c),(3,.string d),(4,.string e),(5,.string f),(6,.string g)].toArray).run prog w= .ok (.agg [.string a,.string b,.string c,.string d,.string e,.string f,.string g].toArray) w:=by kernel_rfl
instance F64_2:Fld prog 64 2 2:={}
instance C16:Fnc prog 16 f16 94:={}
instance C3:Fnc prog 3 f3 156:={}
instance C5:Fnc prog 5 f5 99:={}
instance F37_4:Fld prog 37 4 4:={}
instance I64:Inf prog 64 (.agg #[.int .i64 0,.int .i64 0,.int .i64 0,.int .u64 0,.bool false,.bool false]) 6 40:={}
instance F67_4:Fld prog 67 4 4:={}
instance F67_3:Fld prog 67 3 3:={}
instance F67_1:Fld prog 67 1 1:={}
end Go.Proofs.YtdoihieboknmnaaGreatDoor
