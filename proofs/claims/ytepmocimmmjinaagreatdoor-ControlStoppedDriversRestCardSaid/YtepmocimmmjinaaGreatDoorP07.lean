/-
  Joined.
-/
import Derived.Test.YtepmocimmmjinaaGreatDoorP01
import Derived.Test.YtepmocimmmjinaaGreatDoorProg
set_option linter.unusedSimpArgs false
set_option linter.unusedVariables false
variable {a q:Option Go.Addr} {b i m:Int} {c g h j l n o p r u v w x:Go.Value} {d k s t:Nat} {e:Bool} {f:ByteArray}
namespace Go.Proofs.YtepmocimmmjinaaGreatDoor
open Go Go.Sv Tryz
abbrev zF:=ei Tryz.prog
abbrev zI:=iL Tryz.prog
abbrev zU:=UN Tryz.prog
abbrev zA:=UA Tryz.prog
abbrev zS:=US Tryz.prog
abbrev zR:=ve Tryz.prog
abbrev zD:=ml Tryz.prog
abbrev zB (t:Nat) (p:List (Nat×Value)) (v:List Value):Prop:=∀w,(Instr.build t p.toArray).run Tryz.prog w= .ok (.agg v.toArray) w
abbrev zC (t n:Nat) (p:List (Nat×Value)) (c:List Value) (e:Nat):Prop:=∀w,(Instr.buildSlice t n p.toArray).run Tryz.prog w= .ok (.slice (some ⟨w.heap.size,0,none⟩) n n) (w.alloc (.cells c.toArray e))
instance:zF 333 f333 9:={}
instance:zF 317 f317 25:={}
instance:zF 235 f235 29:={}
instance:zF 322 f322 27:={}
instance:zF 231 f231 55:={}
instance:zF 166 f166 25:={}
instance I9:zI 9 (.string (bs [])) 1 16:={}
instance:zF 232 f232 83:={}
instance:zD 198 0 0:={}
instance:zD 198 4 7:={}
instance:zD 198 1 1:={}
instance:zD 198 3 6:={}
instance:zD 198 2 2:={}
instance:zD 195 0 0:={}
instance:zD 195 1 1:={}
instance:zD 195 2 2:={}
instance:zD 195 3 3:={}
instance mE:zI 200 (.agg #[.bool false,.int .u64 0,.int .u64 0]) 3 24:={}
instance:zD 200 0 0:={}
instance:zD 200 2 2:={}
instance:zF 156 f156 81:={}
instance:zD 72 0 0:={}
instance:zD 72 1 1:={}
instance:zD 72 2 2:={}
instance fG:zI 198 (.agg #[.int .i64 0,.string (bs []),.bool false,.int .u64 0,.int .u64 0,.int .u64 0,.slice none 0 0,.int .i64 0]) 8 88:={}
instance tf:zF 339 f339 11:={}
instance:zF 345 f345 19:={}
instance:zF 338 f338 9:={}
instance:zF 323 f323 51:={}
instance:zI 195 (.agg #[.bool false,.int .u64 0,.int .u64 0,.int .u64 0]) 4 32:={}
theorem xb:zB 195 [] [.bool false,.int .u64 0,.int .u64 0,.int .u64 0]:=λ_=>zk
theorem kWM (x y:Operand) (xs ys:Array Value) (w:World):(eqGuard .neq 195 x y (.agg xs) (.agg ys)).run prog w= .ok () w:=zk
theorem kZD:prog.stoodInHeld 195=false:=zk
theorem kYf (d:Nat) (a:Bool) (b:Bool) (c:Int) (e:Int) (f:Int) (g:Int) (h:Int) (i:Int) (w:World):(Op.equalIn (d+2) 195 (.agg #[.bool a,.int .u64 c,.int .u64 f,.int .u64 h]) (.agg #[.bool b,.int .u64 e,.int .u64 g,.int .u64 i])).run prog w= .ok (decide (a=b/\c=e/\f=g/\h=i)) w:=by
 have j: ∀w,(part 4 #[.bool a,.int .u64 c,.int .u64 f,.int .u64 h] 0).run prog w= .ok (.bool a) w:=λw=>zk
 have k: ∀w,(part 4 #[.bool b,.int .u64 e,.int .u64 g,.int .u64 i] 0).run prog w= .ok (.bool b) w:=λw=>zk
 have l: ∀w,(part 43 #[.bool a,.int .u64 c,.int .u64 f,.int .u64 h] 1).run prog w= .ok (.int .u64 c) w:=λw=>zk
 have m: ∀w,(part 43 #[.bool b,.int .u64 e,.int .u64 g,.int .u64 i] 1).run prog w= .ok (.int .u64 e) w:=λw=>zk
 have n: ∀w,(part 43 #[.bool a,.int .u64 c,.int .u64 f,.int .u64 h] 2).run prog w= .ok (.int .u64 f) w:=λw=>zk
 have o: ∀w,(part 43 #[.bool b,.int .u64 e,.int .u64 g,.int .u64 i] 2).run prog w= .ok (.int .u64 g) w:=λw=>zk
 have p: ∀w,(part 43 #[.bool a,.int .u64 c,.int .u64 f,.int .u64 h] 3).run prog w= .ok (.int .u64 h) w:=λw=>zk
 have q: ∀w,(part 43 #[.bool b,.int .u64 e,.int .u64 g,.int .u64 i] 3).run prog w= .ok (.int .u64 i) w:=λw=>zk
 rw[Op.equalIn];simp only[Sem.run_bind,run_underlying underlying195,Result.andThen_ok];simp[kZD,j,k,l,m,n,o,p,q,GW d underlying4,Ay d underlying43]
 (repeat' split)<;>simp_all
theorem kWN (a:Bool) (b:Int) (c:Int) (d:Int) (e:Bool) (f:Int) (g:Int) (h:Int) (w:World):(binOp .neq 195 (.agg #[.bool a,.int .u64 b,.int .u64 c,.int .u64 d]) (.agg #[.bool e,.int .u64 f,.int .u64 g,.int .u64 h])).run prog w= .ok (.bool (decide (¬(a=e/\b=f/\c=g/\d=h)))) w:=
 GU (p:=a=e/\b=f/\c=g/\d=h) (λ_ _=>zm) (λ_=>zm) (λ_ _=>zm) (λ_ _ _=>zm) (λw=>kYf 9998 a e b f c g d h w) w
instance I4:zI 4 (.bool false) 1 1:={}
instance:zF 305 f305 21:={}
instance:zF 306 f306 66:={}
theorem Ep:(f357.name== "runtime.NumGoroutine")=false:=zk
theorem Er:f357.body.isNone=true:=zk
theorem Es:Extern.findNext f357=none:=zk
theorem Et:Extern.find f357=some Extern.BytealgIndexByte.indexByte:=zk
instance:zF 347 f347 8:={}
instance:zF 342 f342 143:={}
instance:zF 330 f330 8:={}
instance:zF 331 f331 23:={}
instance:zF 315 f315 13:={}
instance:zF 332 f332 18:={}
instance:zF 316 f316 8:={}
instance jR:zI 465 (.agg #[.int .i64 0,.string (bs []),.int .u64 0]) 3 32:={}
instance:zF 318 f318 46:={}
theorem vF:zB 465 [(0,.int .i64 b),(1,.string f)] [.int .i64 b,.string f,.int .u64 0]:=λ_=>zk
theorem vG:zB 465 [] [.int .i64 0,.string (bs []),.int .u64 0]:=λ_=>zk
instance:zF 334 f334 26:={}
theorem PB:zB 465 [(0,.int .i64 b),(2,.int .u64 i)] [.int .i64 b,.string (bs []),.int .u64 i]:=λ_=>zk
instance:zF 303 f303 98:={}
theorem pp:zC 452 1 [(0,.agg #[c,g,h])] [c,g,h] 465:=λ_=>zk
instance:zF 320 f320 13:={}
instance:zD 471 1 1:={}
instance:zD 471 0 0:={}
instance:zF 319 f319 39:={}
instance:zD 465 0 0:={}
instance I3:zI 3 (.int .i64 0) 1 8:={}
instance:zD 465 1 1:={}
instance:zF 335 f335 46:={}
instance Oc:zI 43 (.int .u64 0) 1 8:={}
instance:zF 336 f336 41:={}
instance:zD 465 2 2:={}
instance:zF 337 f337 29:={}
instance:zD 200 1 1:={}
instance:zF 321 f321 89:={}
theorem ti:zC 196 1 [(0,.agg #[c,g,h])] [c,g,h] 200:=λ_=>zk
instance:zI 196 (.slice none 0 0) 1 24:={}
instance:zF 304 f304 120:={}
theorem Bc7:zB 471 [(0,.slice a d k)] [.slice a d k,.int .i64 0]:=λ_=>zk
instance:zI 471 (.agg #[.slice none 0 0,.int .i64 0]) 2 32:={}
instance:zD 448 1 3:={}
instance:zD 448 0 0:={}
theorem nj:zC 69 1 [(0,.string f)] [.string f] 9:=λ_=>zk
instance:zI 69 (.slice none 0 0) 1 24:={}
theorem rj:zC 70 1 [(0,.agg #[c,g,h,j,l,n,o,p])] [c,g,h,j,l,n,o,p] 198:=λ_=>zk
instance:zI 70 (.slice none 0 0) 1 24:={}
instance:zD 448 2 4:={}
instance tj:zF 328 f328 52:={}
instance:zF 314 f314 8:={}
instance:zF 302 f302 8:={}
instance kE:zI 72 (.agg #[.string (bs []),.slice none 0 0,.slice none 0 0]) 3 64:={}
instance:zF 270 f270 93:={}
theorem Eu:f270.ntmps=93:=zk
instance:zI 41 (.int .i64 0) 1 8:={}
instance:zI 448 (.agg #[.string (bs []),.slice none 0 0,.slice none 0 0,.bool false,.slice none 0 0]) 5 96:={}
theorem mF:zB 72 [] [.string (bs []),.slice none 0 0,.slice none 0 0]:=λ_=>zk
instance:zF 324 f324 8:={}
theorem BcA:zC 69 0 [] [] 9:=λ_=>zk
instance:zF 325 f325 8:={}
theorem BcH:zC 70 0 [] [] 198:=λ_=>zk
instance:zF 252 f252 8:={}
theorem Ov:zC 196 0 [] [] 200:=λ_=>zk
instance:zF 307 f307 32:={}
instance eZ:zI 238 (.agg #[.slice none 0 0,.bool false]) 2 32:={}
instance:zF 179 f179 14:={}
instance:zD 257 1 3:={}
theorem Oe:zB 238 [(0,.slice a d k)] [.slice a d k,.bool false]:=λ_=>zk
instance:zF 177 f177 62:={}
instance:zD 257 0 0:={}
instance:zD 257 2 4:={}
instance:zD 257 3 5:={}
theorem BbT:zB 200 [(1,.int .u64 b)] [.bool false,.int .u64 b,.int .u64 0]:=λ_=>zk
theorem PE:zB 238 [(0,.slice a d k),(1,.bool e)] [.slice a d k,.bool e]:=λ_=>zk
theorem vH:zB 238 [] [.slice none 0 0,.bool false]:=λ_=>zk
instance:zF 98 f98 14:={}
instance:zF 100 f100 53:={}
instance:zF 64 f64 7:={}
instance:zF 272 f272 14:={}
theorem BcE:zB 257 [(0,.agg #[c,g,h])] [c,g,h,.int .i64 0,.bool false,.int .i64 0]:=λ_=>zk
instance:zD 238 0 0:={}
instance:zD 238 1 1:={}
theorem Bby:zB 200 [(0,.bool e),(1,.int .u64 b),(2,.int .u64 i)] [.bool e,.int .u64 b,.int .u64 i]:=λ_=>zk
instance C8:zF 8 f8 11:={}
theorem Oy (a:ByteArray) (b:ByteArray) (c:ByteArray) (d:ByteArray) (e:ByteArray) (f:ByteArray):zB 193 [(0,.string a),(1,.string b),(2,.string c),(3,.string d),(4,.string e),(5,.string f)] [.string a,.string b,.string c,.string d,.string e,.string f]:=λ_=>zk
instance:zF 82 f82 130:={}
instance:zI 193 (.agg #[.string (bs []),.string (bs []),.string (bs []),.string (bs []),.string (bs []),.string (bs [])]) 6 96:={}
theorem Bbv (a:ByteArray) (b:ByteArray) (c:ByteArray) (d:ByteArray):zB 302 [(0,.string a),(1,.string b),(2,.string c),(3,.string d)] [.string a,.string b,.string c,.string d]:=λ_=>zk
instance:zI 302 (.agg #[.string (bs []),.string (bs []),.string (bs []),.string (bs [])]) 4 64:={}
theorem Bc6:zB 72 [(0,.string f)] [.string f,.slice none 0 0,.slice none 0 0]:=λ_=>zk
theorem Od:zB 198 [(0,.int .i64 b),(1,.string f),(4,.int .i64 i)] [.int .i64 b,.string f,.bool false,.int .u64 0,.int .u64 0,.int .u64 0,.slice none 0 0,.int .i64 i]:=λ_=>zk
theorem FC:zB 195 [(0,.bool e),(1,.int .u64 b),(2,.int .u64 i),(3,.int .u64 m)] [.bool e,.int .u64 b,.int .u64 i,.int .u64 m]:=λ_=>zk
instance:zF 288 f288 51:={}
instance dt:zI 388 (.agg #[.int .u8 0,.string (bs []),.int .u64 0]) 3 32:={}
instance:zF 236 f236 18:={}
theorem BcB:zB 388 [(0,.int .u8 b),(2,.int .u64 i)] [.int .u8 b,.string (bs []),.int .u64 i]:=λ_=>zk
theorem Bbx:zB 388 [(0,.int .u8 b),(1,.string f)] [.int .u8 b,.string f,.int .u64 0]:=λ_=>zk
instance:zF 164 f164 109:={}
theorem po:zC 313 1 [(0,.agg #[c,g,h])] [c,g,h] 388:=λ_=>zk
theorem nk:zB 388 [(0,.int .u8 b)] [.int .u8 b,.string (bs []),.int .u64 0]:=λ_=>zk
instance:zF 237 f237 21:={}
instance:zD 388 0 0:={}
theorem Bc1:zC 246 1 [(0,.int .u8 b)] [.int .u8 b] 5:=λ_=>zk
instance:zF 289 f289 76:={}
instance:zD 388 1 1:={}
instance:zD 388 2 2:={}
instance mG:zI 319 (.agg #[.int .i64 0,.string (bs []),.bool false,.int .u64 0,.int .u64 0,.int .u64 0,.slice none 0 0,.int .i64 0,.string (bs [])]) 9 104:={}
instance:zF 238 f238 89:={}
instance:zD 319 0 0:={}
instance:zD 319 1 8:={}
instance:zF 163 f163 32:={}
instance:zF 165 f165 96:={}
instance:zD 311 2 4:={}
instance:zD 311 0 0:={}
instance:zD 311 1 3:={}
theorem AR:zC 309 1 [(0,.agg #[c,g,h,j,l,n,o,p,r])] [c,g,h,j,l,n,o,p,r] 319:=λ_=>zk
instance:zI 309 (.slice none 0 0) 1 24:={}
instance:zF 88 f88 139:={}
theorem Bc4:zB 311 [] [.string (bs []),.slice none 0 0,.slice none 0 0,.slice none 0 0,.bool false]:=λ_=>zk
instance I5:zI 5 (.int .u8 0) 1 1:={}
instance:zI 246 (.slice none 0 0) 1 24:={}
instance fJ:zF 233 f233 22:={}
instance:zF 157 f157 86:={}
instance:zF 83 f83 67:={}
instance:zF 269 f269 16:={}
instance:zD 404 0 0:={}
instance:zD 404 1 1:={}
instance:zF 246 f246 22:={}
instance:zD 404 3 3:={}
instance:zF 203 f203 27:={}
instance:zD 404 2 2:={}
instance:zF 125 f125 21:={}
instance:zF 247 f247 91:={}
instance:zI 190 (.agg #[.int .i64 0,.int .u64 0,.int .u64 0]) 3 24:={}
instance:zD 190 0 0:={}
instance:zD 190 1 1:={}
theorem AX:zB 441 [(0,.int .i64 b),(1,.bool e),(2,.int .u64 i),(3,.int .u64 m)] [.int .i64 b,.bool e,.int .u64 i,.int .u64 m]:=λ_=>zk
theorem vL:zC 234 1 [(0,.agg #[c,g,h,j])] [c,g,h,j] 441:=λ_=>zk
instance:zI 441 (.agg #[.int .i64 0,.bool false,.int .u64 0,.int .u64 0]) 4 32:={}
instance:zF 248 f248 109:={}
instance:zD 190 2 2:={}
theorem PC:zB 441 [(0,.int .i64 b),(2,.int .u64 i),(3,.int .u64 m)] [.int .i64 b,.bool false,.int .u64 i,.int .u64 m]:=λ_=>zk
instance:zF 175 f175 21:={}
instance:zF 176 f176 60:={}
instance:zF 313 f313 10:={}
instance:zF 297 f297 30:={}
instance:zD 396 0 0:={}
instance:zD 396 3 3:={}
instance:zF 294 f294 23:={}
instance:zD 396 1 1:={}
instance:zD 396 2 2:={}
instance:zF 253 f253 22:={}
instance:zF 299 f299 46:={}
instance:zF 298 f298 91:={}
instance:zF 300 f300 112:={}
instance:zF 256 f256 20:={}
instance:zF 257 f257 24:={}
instance:zF 276 f276 8:={}
theorem vK:zC 24 0 [] [] 190:=λ_=>zk
instance:zF 205 f205 8:={}
theorem BcC:zC 56 0 [] [] 3:=λ_=>zk
instance:zF 278 f278 19:={}
theorem kZE:prog.stoodInHeld 219=false:=zk
theorem Om (d:Nat) (a:Int) (b:Int) (c:Int) (e:Int) (w:World):(Op.equalIn (d+2) 219 (.agg #[.int .i64 a,.int .i64 c]) (.agg #[.int .i64 b,.int .i64 e])).run prog w= .ok (decide (a=b/\c=e)) w:=by
 have f: ∀w,(part 3 #[.int .i64 a,.int .i64 c] 0).run prog w= .ok (.int .i64 a) w:=λw=>zk
 have g: ∀w,(part 3 #[.int .i64 b,.int .i64 e] 0).run prog w= .ok (.int .i64 b) w:=λw=>zk
 have h: ∀w,(part 3 #[.int .i64 a,.int .i64 c] 1).run prog w= .ok (.int .i64 c) w:=λw=>zk
 have i: ∀w,(part 3 #[.int .i64 b,.int .i64 e] 1).run prog w= .ok (.int .i64 e) w:=λw=>zk
 rw[Op.equalIn];simp only[Sem.run_bind,run_underlying underlying219,Result.andThen_ok];simp[kZE,f,g,h,i,Ay d underlying3]
 (repeat' split)<;>simp_all
instance:zF 208 f208 63:={}
instance:zI 219 (.agg #[.int .i64 0,.int .i64 0]) 2 16:={}
instance:zD 219 0 0:={}
instance:zD 219 1 1:={}
instance:zF 277 f277 47:={}
instance gk:zI 56 (.slice none 0 0) 1 24:={}
theorem jS:zC 56 1 [(0,.int .i64 b)] [.int .i64 b] 3:=λ_=>zk
instance:zF 209 f209 62:={}
instance:zF 275 f275 18:={}
instance:zF 207 f207 66:={}
theorem rf:zB 219 [(0,.int .i64 b),(1,.int .i64 i)] [.int .i64 b,.int .i64 i]:=λ_=>zk
theorem nn:zC 209 1 [(0,.agg #[c,g])] [c,g] 219:=λ_=>zk
theorem vN {i:Option Addr} {e f:Nat}:zB 404 [(0,.slice a d k),(1,.slice q s t),(2,.slice i e f)] [.slice a d k,.slice q s t,.slice i e f,.int .u64 0]:=λ_=>zk
instance:zF 168 f168 84:={}
theorem pm {i:Option Addr} {e f:Nat}:zB 396 [(0,.slice a d k),(1,.slice q s t),(2,.slice i e f)] [.slice a d k,.slice q s t,.slice i e f,.int .u64 0]:=λ_=>zk
instance:zF 29 f29 79:={}
theorem Bbt:zB 190 [(0,.int .i64 b),(1,.int .u64 i),(2,.int .u64 m)] [.int .i64 b,.int .u64 i,.int .u64 m]:=λ_=>zk
theorem Baf:zC 24 1 [(0,.agg #[c,g,h])] [c,g,h] 190:=λ_=>zk
instance:zF 131 f131 9:={}
instance:zF 133 f133 9:={}
instance:zF 210 f210 9:={}
instance:zD 154 0 0:={}
instance:zD 154 1 1:={}
instance:zF 132 f132 18:={}
instance xd:zI 154 (.agg #[.int .u64 0,.int .u64 0]) 2 16:={}
instance:zF 135 f135 17:={}
instance tl:zF 212 f212 15:={}
instance cw:zI 273 (.pointer none) 1 8:={}
instance:zD 272 0 0:={}
instance:zF 211 f211 26:={}
instance:zF 134 f134 18:={}
instance:zD 139 0 0:={}
instance fK:zI 135 (.slice none 0 0) 1 24:={}
instance:zF 192 f192 50:={}
instance:zD 272 1 2:={}
instance:zF 16 f16 3:={}
instance:zF 68 f68 16:={}
instance:zD 139 2 4:={}
instance Ev:zI 45 (.slice none 0 0) 1 24:={}
instance:zF 11 f11 12:={}
instance:zD 139 4 261:={}
instance xe:zI 137 (.slice none 0 0) 1 24:={}
instance:zF 120 f120 44:={}
instance:zD 139 3 260:={}
theorem Bc8:zB 350 [(0,.int .i64 b),(1,.agg #[c,g]),(2,.int .i64 i)] [.int .i64 b,c,g,.int .i64 i]:=λ_=>zk
theorem Oz:zC 137 1 [(0,.agg #[c,g,h,j])] [c,g,h,j] 350:=λ_=>zk
instance mH:zI 350 (.agg #[.int .i64 0,.int .u64 0,.int .u64 0,.int .i64 0]) 4 32:={}
theorem Ew:(f213.name== "runtime.NumGoroutine")=false:=zk
theorem Ey:f213.body.isNone=true:=zk
theorem Ez:Extern.findNext f213=none:=zk
theorem FA:Extern.find f213=some (Extern.SlicesOverlaps.overlaps #[135,135] #[4]):=zk
instance:zF 136 f136 95:={}
instance:zF 66 f66 83:={}
instance:zD 139 1 3:={}
theorem Oo:zB 272 [(0,.agg #[c,g]),(1,.int .i64 b)] [c,g,.int .i64 b,.slice none 0 0]:=λ_=>zk
theorem vM:zC 135 1 [(0,.pointer a)] [.pointer a] 273:=λ_=>zk
instance:zF 251 f251 42:={}
instance:zD 272 2 3:={}
instance:zF 193 f193 48:={}
instance:zF 293 f293 33:={}
instance:zF 249 f249 22:={}
instance:zD 53 2 2:={}
instance:zD 53 0 0:={}
instance:zD 53 1 1:={}
instance:zF 250 f250 62:={}
theorem xf:zB 154 [(0,.int .u64 b),(1,.int .u64 i)] [.int .u64 b,.int .u64 i]:=λ_=>zk
instance:zD 350 0 0:={}
instance:zD 350 1 1:={}
instance:zD 350 2 3:={}
instance:zF 178 f178 130:={}
instance:zI 53 (.agg #[.int .i64 0,.int .u64 0,.int .i64 0,.bool false,.int .u64 0]) 5 40:={}
theorem eI:zB 55 [(0,.agg #[c,g,h,j,l]),(1,.int .i64 b)] [c,g,h,j,l,.int .i64 b,.bool false,.bool false]:=λ_=>zk
instance:zI 55 (.agg #[.int .i64 0,.int .u64 0,.int .i64 0,.bool false,.int .u64 0,.int .i64 0,.bool false,.bool false]) 8 56:={}
instance:zD 55 1 5:={}
instance:zD 55 2 6:={}
instance:zD 55 3 7:={}
instance:zD 53 3 3:={}
instance:zD 53 4 4:={}
instance:zD 55 0 0:={}
theorem AP:zC 45 1 [(0,.agg #[c,g,h,j,l,n,o,p])] [c,g,h,j,l,n,o,p] 55:=λ_=>zk
instance:zF 190 f190 19:={}
theorem Bbs {d:Int}:zB 53 [(0,.int .i64 b),(1,.int .u64 i),(2,.int .i64 m),(3,.bool e),(4,.int .u64 d)] [.int .i64 b,.int .u64 i,.int .i64 m,.bool e,.int .u64 d]:=λ_=>zk
instance tp:zF 260 f260 8:={}
instance:zF 265 f265 33:={}
instance:zF 191 f191 51:={}
theorem kWO (x y:Operand) (xs ys:Array Value) (w:World):(eqGuard .neq 154 x y (.agg xs) (.agg ys)).run prog w= .ok () w:=zk
theorem kZF:prog.stoodInHeld 154=false:=zk
theorem Ot (d:Nat) (a:Int) (b:Int) (c:Int) (e:Int) (w:World):(Op.equalIn (d+2) 154 (.agg #[.int .u64 a,.int .u64 c]) (.agg #[.int .u64 b,.int .u64 e])).run prog w= .ok (decide (a=b/\c=e)) w:=by
 have f: ∀w,(part 43 #[.int .u64 a,.int .u64 c] 0).run prog w= .ok (.int .u64 a) w:=λw=>zk
 have g: ∀w,(part 43 #[.int .u64 b,.int .u64 e] 0).run prog w= .ok (.int .u64 b) w:=λw=>zk
 have h: ∀w,(part 43 #[.int .u64 a,.int .u64 c] 1).run prog w= .ok (.int .u64 c) w:=λw=>zk
 have i: ∀w,(part 43 #[.int .u64 b,.int .u64 e] 1).run prog w= .ok (.int .u64 e) w:=λw=>zk
 rw[Op.equalIn];simp only[Sem.run_bind,run_underlying underlying154,Result.andThen_ok];simp[kZF,f,g,h,i,Ay d underlying43]
 (repeat' split)<;>simp_all
theorem kWP (a:Int) (b:Int) (c:Int) (d:Int) (w:World):(binOp .neq 154 (.agg #[.int .u64 a,.int .u64 b]) (.agg #[.int .u64 c,.int .u64 d])).run prog w= .ok (.bool (decide (¬(a=c/\b=d)))) w:=
 GU (p:=a=c/\b=d) (λ_ _=>zm) (λ_=>zm) (λ_ _=>zm) (λ_ _ _=>zm) (λw=>Ot 9998 a c b d w) w
instance:zF 113 f113 21:={}
instance:zF 160 f160 9:={}
instance:zF 161 f161 20:={}
instance:zF 234 f234 18:={}
instance:zF 162 f162 15:={}
instance:zF 200 f200 40:={}
instance:zD 114 0 0:={}
instance jU:zI 307 (.agg #[.int .i64 0,.int .u64 0,.int .u64 0,.int .i64 0,.slice none 0 0]) 5 56:={}
instance:zD 307 0 0:={}
instance:zD 307 1 1:={}
instance:zF 261 f261 22:={}
instance:zD 307 2 3:={}
instance:zF 194 f194 36:={}
instance:zD 307 3 4:={}
instance:zF 87 f87 19:={}
instance:zD 114 1 1:={}
instance:zD 114 3 258:={}
instance:zF 122 f122 39:={}
instance:zF 259 f259 35:={}
instance FB:zI 112 (.slice none 0 0) 1 24:={}
instance:zF 121 f121 62:={}
instance:zD 114 2 257:={}
instance:zI 352 (.agg #[.int .i64 0,.int .u64 0,.int .u64 0,.int .i64 0]) 4 32:={}
instance:zD 352 2 3:={}
theorem BcG:zB 352 [(0,.int .i64 b),(1,.agg #[c,g]),(2,.int .i64 i)] [.int .i64 b,c,g,.int .i64 i]:=λ_=>zk
theorem Oq:zC 112 1 [(0,.agg #[c,g,h,j])] [c,g,h,j] 352:=λ_=>zk
instance:zF 262 f262 56:={}
instance:zD 352 0 0:={}
instance:zD 352 1 1:={}
instance xg:zI 110 (.slice none 0 0) 1 24:={}
instance:zF 85 f85 79:={}
theorem Oh:zB 307 [(0,.int .i64 b),(1,.agg #[c,g]),(2,.int .i64 i),(3,.slice a d k)] [.int .i64 b,c,g,.int .i64 i,.slice a d k]:=λ_=>zk
theorem Oj:zC 110 1 [(0,.agg #[c,g,h,j,l])] [c,g,h,j,l] 307:=λ_=>zk
instance:zF 195 f195 57:={}
theorem kWQ (x y:Operand) (xs ys:Array Value) (w:World):(eqGuard .eql 154 x y (.agg xs) (.agg ys)).run prog w= .ok () w:=zk
theorem kWR (a:Int) (b:Int) (c:Int) (d:Int) (w:World):(binOp .eql 154 (.agg #[.int .u64 a,.int .u64 b]) (.agg #[.int .u64 c,.int .u64 d])).run prog w= .ok (.bool (decide (a=c/\b=d))) w:=
 GV (p:=a=c/\b=d) (λ_ _=>zm) (λ_=>zm) (λ_ _=>zm) (λ_ _ _=>zm) (λw=>Ot 9998 a c b d w) w
instance:zF 186 f186 183:={}
theorem vO:zB 55 [(0,.agg #[c,g,h,j,l]),(1,.int .i64 b),(2,.bool e)] [c,g,h,j,l,.int .i64 b,.bool e,.bool false]:=λ_=>zk
instance:zU 3:={}
instance:zU 4:={}
instance:zU 5:={}
instance:zU 9:={}
instance:zR 9:={}
instance:zU 22:={}
instance:zS 22 64:={}
instance:zU 23:={}
instance:zS 23 72:={}
instance:zU 24:={}
instance:zS 24 190:={}
instance:zU 25:={}
instance:zS 25 48:={}
instance:zU 28:={}
instance:zS 28 43:={}
instance:zA 30:={}
instance:zU 32:={}
instance:zU 33:={}
instance:zU 34:={}
instance:zU 35:={}
instance:zA 37:={}
instance:zU 41:={}
instance:zU 43:={}
instance:zU 45:={}
instance:zS 45 55:={}
instance:zA 48:={}
instance:zA 53:={}
instance:zA 55:={}
instance:zU 56:={}
instance:zS 56 3:={}
instance:zA 57:={}
instance:zA 58:={}
instance:zA 60:={}
instance:zA 62:={}
instance:zA 64:={}
instance:zA 66:={}
instance:zU 69:={}
instance:zS 69 9:={}
instance:zU 70:={}
instance:zS 70 198:={}
instance:zA 72:={}
instance:zU 106:={}
instance:zS 106 60:={}
instance:zU 110:={}
instance:zS 110 307:={}
instance:zA 111:={}
instance:zU 112:={}
instance:zS 112 352:={}
instance:zU 117:={}
instance:zU 120:={}
instance:zS 120 134:={}
instance:zU 121:={}
instance:zU 122:={}
instance:zU 126:={}
instance:zS 126 233:={}
instance:zU 132:={}
instance:zA 134:={}
instance:zU 135:={}
instance:zS 135 273:={}
instance:zA 136:={}
instance:zU 137:={}
instance:zS 137 350:={}
instance:zA 154:={}
instance:zA 190:={}
instance:zA 193:={}
instance:zA 195:={}
instance:zU 196:={}
instance:zS 196 200:={}
instance:zA 198:={}
instance:zA 200:={}
instance:zU 204:={}
instance:zS 204 4:={}
instance:zU 205:={}
instance:zS 205 69:={}
instance:zU 206:={}
instance:zU 207:={}
instance:zU 208:={}
instance:zS 208 215:={}
instance:zU 209:={}
instance:zS 209 219:={}
instance:zU 212:={}
instance:zS 212 62:={}
instance:zU 215:={}
instance:zA 219:={}
instance:zA 225:={}
instance:zU 226:={}
instance:zS 226 225:={}
instance:zA 233:={}
instance:zU 234:={}
instance:zS 234 441:={}
instance:zA 238:={}
instance:zU 245:={}
instance:zS 245 246:={}
instance:zU 246:={}
instance:zS 246 5:={}
instance:zU 253:={}
instance:zU 258:={}
instance:zU 273:={}
instance:zA 302:={}
instance:zU 309:={}
instance:zS 309 319:={}
instance:zU 313:={}
instance:zS 313 388:={}
instance:zA 319:={}
instance:zU 323:={}
instance:zA 345:={}
instance:zA 346:={}
instance:zA 350:={}
instance:zA 388:={}
instance:zU 397:={}
instance:zS 397 204:={}
instance:zU 419:={}
instance:zU 420:={}
instance:zS 420 56:={}
instance:zU 452:={}
instance:zS 452 465:={}
instance:zU 456:={}
instance:zA 465:={}
instance:zU 476:={}
instance:zF 129 f129 22:={}
instance:zF 291 f291 55:={}
instance:zF 240 f240 30:={}
theorem kWU (x y:Operand) (xs ys:Array Value) (w:World):(eqGuard .eql 219 x y (.agg xs) (.agg ys)).run prog w= .ok () w:=zk
theorem kWV (a:Int) (b:Int) (c:Int) (d:Int) (w:World):(binOp .eql 219 (.agg #[.int .i64 a,.int .i64 b]) (.agg #[.int .i64 c,.int .i64 d])).run prog w= .ok (.bool (decide (a=c/\b=d))) w:=
 GV (p:=a=c/\b=d) (λ_ _=>zm) (λ_=>zm) (λ_ _=>zm) (λ_ _ _=>zm) (λw=>Om 9998 a c b d w) w
instance:zF 241 f241 80:={}
instance FD:zI 204 (.slice none 0 0) 1 24:={}
instance:zF 268 f268 65:={}
instance:zF 169 f169 29:={}
instance:zF 202 f202 22:={}
instance:zF 243 f243 20:={}
instance:zF 290 f290 20:={}
instance:zF 327 f327 6:={}
instance:zF 311 f311 17:={}
instance:zF 308 f308 21:={}
instance:zF 274 f274 17:={}
instance:zD 60 2 5:={}
instance:zI 57 (.agg #[.slice none 0 0,.slice none 0 0,.slice none 0 0,.slice none 0 0]) 4 96:={}
instance:zF 273 f273 35:={}
instance:zD 60 1 1:={}
instance:zF 206 f206 64:={}
instance:zI 60 (.agg #[.int .i64 0,.slice none 0 0,.slice none 0 0,.slice none 0 0,.slice none 0 0,.int .i64 0,.int .i64 0,.int .i64 0,.int .i64 0,.int .i64 0,.int .i64 0,.int .i64 0,.int .i64 0]) 13 168:={}
instance:zD 60 0 0:={}
instance:zD 60 4 12:={}
instance:zD 60 3 11:={}
instance:zF 239 f239 115:={}
instance:zF 167 f167 31:={}
instance:zF 127 f127 70:={}
theorem Bc2:zB 255 [(2,.pointer a)] [.slice none 0 0,.slice none 0 0,.pointer a,.int .u64 0]:=λ_=>zk
instance:zD 255 0 0:={}
theorem oZ (b:World):(Instr.buildSlice 106 1 [(0,.agg #[c,g,h,j,l,n,o,p,r,u,v,w,x])].toArray).run prog b= .ok (.slice (some ⟨b.heap.size,0,none⟩) 1 1) (b.alloc (.cells [c,g,h,j,l,n,o,p,r,u,v,w,x].toArray 60)):=zk
instance:zI 106 (.slice none 0 0) 1 24:={}
instance:zD 255 1 1:={}
end Go.Proofs.YtepmocimmmjinaaGreatDoor
namespace Go.Proofs.YtepmocimmmjinaaGreatDoor
open Go
instance C90:Sv.ei Tryz.prog 90 Tryz.f90 46:={}
theorem Bc3:zB 327 [(0,.slice a d k),(1,.pointer q)] [.slice a d k,.pointer q,.slice none 0 0,.int .u64 0]:=λ_=>zk
instance FE:Sv.ml Tryz.prog 327 2 2:={}
end Go.Proofs.YtepmocimmmjinaaGreatDoor
namespace Go.Proofs.YtepmocimmmjinaaGreatDoor
open Go Go.Sv Tryz
instance:zF 67 f67 5:={}
instance:zF 86 f86 5:={}
instance:zF 271 f271 10:={}
instance:zF 158 f158 16:={}
instance tq:zF 189 f189 6:={}
instance:zF 264 f264 19:={}
instance:zF 188 f188 9:={}
instance:zF 111 f111 6:={}
end Go.Proofs.YtepmocimmmjinaaGreatDoor
namespace Go.Proofs.YtepmocimmmjinaaGreatDoor
open Go
instance C159:Sv.ei Tryz.prog 159 Tryz.f159 53:={}
instance C204:Sv.ei Tryz.prog 204 Tryz.f204 51:={}
end Go.Proofs.YtepmocimmmjinaaGreatDoor
namespace Go.Proofs.YtepmocimmmjinaaGreatDoor
open Go Go.Sv Tryz
instance:zF 130 f130 44:={}
instance:zI 64 (.agg #[.int .i64 0,.int .i64 0,.slice none 0 0,.slice none 0 0,.slice none 0 0,.slice none 0 0,.int .i64 0,.int .i64 0,.int .i64 0,.int .i64 0,.int .i64 0,.int .i64 0,.int .i64 0,.int .i64 0,.int .i64 0,.slice none 0 0,.int .u64 0,.string (bs [])]) 18 232:={}
instance:zD 64 2 14:={}
instance:zD 62 0 0:={}
instance:zD 62 1 1:={}
end Go.Proofs.YtepmocimmmjinaaGreatDoor
namespace Go.Proofs.YtepmocimmmjinaaGreatDoor
open Go
instance C81:Sv.ei Tryz.prog 81 Tryz.f81 37:={}
instance C32:Sv.ei Tryz.prog 32 Tryz.f32 14:={}
instance C89:Sv.ei Tryz.prog 89 Tryz.f89 13:={}
theorem BcI:zB 321 [(0,.agg #[c,g,h]),(2,.int .i64 b)] [c,g,h,.int .i64 0,.int .i64 b,.string (Sv.bs [])]:=λ_=>zk
instance C4:Sv.ei Tryz.prog 4 Tryz.f4 82:={}
instance Ow:Sv.ml Tryz.prog 64 1 1:={}
instance Ox:Sv.ml Tryz.prog 64 3 17:={}
instance FF:Sv.ml Tryz.prog 124 4 4:={}
instance FG:Sv.ml Tryz.prog 211 0 0:={}
instance AU:Sv.ml Tryz.prog 211 10 10:={}
end Go.Proofs.YtepmocimmmjinaaGreatDoor
namespace Go.Proofs.YtepmocimmmjinaaGreatDoor
open Go Go.Sv Tryz
instance:zF 91 f91 116:={}
theorem vJ {c:Option Addr} {e f:Nat} {l:Option Addr} {g h:Nat}:zB 329 [(0,.slice a d k),(2,.slice q s t),(3,.slice c e f),(4,.slice l g h)] [.slice a d k,.slice none 0 0,.slice q s t,.slice c e f,.slice l g h,.int .u64 0]:=λ_=>zk
instance:zI 62 (.agg #[.int .i64 0,.slice none 0 0,.int .u64 0]) 3 40:={}
instance:zD 62 2 2:={}
instance:zD 329 1 1:={}
instance:zI 209 (.slice none 0 0) 1 24:={}
instance:zF 128 f128 177:={}
instance:zI 225 (.agg #[.slice none 0 0,.slice none 0 0,.int .u64 0,.bool false,.int .i64 0,.int .u64 0]) 6 80:={}
theorem Bbw:zB 228 [(0,.slice a d k),(1,.slice q s t)] [.slice a d k,.slice q s t,.int .u64 0]:=λ_=>zk
instance:zD 228 0 0:={}
instance:zD 225 2 2:={}
instance:zD 225 0 0:={}
instance:zD 225 1 1:={}
instance mI:zI 134 (.agg #[.int .i64 0,.int .i64 0,.slice none 0 0,.slice none 0 0,.slice none 0 0,.slice none 0 0,.int .i64 0,.int .i64 0,.int .i64 0,.int .i64 0,.int .i64 0,.int .i64 0,.int .i64 0,.int .i64 0,.int .u64 0,.pointer none,.bool false,.slice none 0 0,.bool false,.int .i64 0]) 20 240:={}
instance:zF 126 f126 75:={}
instance:zD 64 0 0:={}
theorem xh:zB 134 [] [.int .i64 0,.int .i64 0,.slice none 0 0,.slice none 0 0,.slice none 0 0,.slice none 0 0,.int .i64 0,.int .i64 0,.int .i64 0,.int .i64 0,.int .i64 0,.int .i64 0,.int .i64 0,.int .i64 0,.int .u64 0,.pointer none,.bool false,.slice none 0 0,.bool false,.int .i64 0]:=λ_=>zk
theorem Bbu (q:World):(Instr.build 134 [(0,.int .i64 b),(1,.agg #[c,g,h,j,l,n,o,p,r,u,v,w,x]),(2,.int .u64 i),(3,.pointer a),(7,.int .i64 m)].toArray).run prog q= .ok (.agg [.int .i64 b,c,g,h,j,l,n,o,p,r,u,v,w,x,.int .u64 i,.pointer a,.bool false,.slice none 0 0,.bool false,.int .i64 m].toArray) q:=zk
instance:zF 65 f65 121:={}
theorem Bc0:zB 124 [(3,.pointer a)] [.slice none 0 0,.pointer none,.pointer none,.pointer a,.slice none 0 0]:=λ_=>zk
instance:zD 134 0 0:={}
instance:zD 124 0 0:={}
theorem Oi {d e f b a i t:Value} (s:World):(Instr.buildSlice 120 1 [(0,.agg #[c,g,h,j,l,n,o,p,r,u,v,w,x,d,e,f,b,a,i,t])].toArray).run prog s= .ok (.slice (some ⟨s.heap.size,0,none⟩) 1 1) (s.alloc (.cells [c,g,h,j,l,n,o,p,r,u,v,w,x,d,e,f,b,a,i,t].toArray 134)):=zk
instance:zI 120 (.slice none 0 0) 1 24:={}
theorem rn:zC 212 1 [(0,.agg #[c,g,h])] [c,g,h] 62:=λ_=>zk
instance:zD 124 1 1:={}
instance:zI 121 (.pointer none) 1 8:={}
instance:zD 124 2 2:={}
instance:zI 122 (.pointer none) 1 8:={}
end Go.Proofs.YtepmocimmmjinaaGreatDoor
namespace Go.Proofs.YtepmocimmmjinaaGreatDoor
open Go
instance C17:Sv.ei Tryz.prog 17 Tryz.f17 50:={}
instance FH:Sv.ml Tryz.prog 134 2 14:={}
instance C84:Sv.ei Tryz.prog 84 Tryz.f84 133:={}
end Go.Proofs.YtepmocimmmjinaaGreatDoor
namespace Go.Proofs.YtepmocimmmjinaaGreatDoor
open Go Go.Sv Tryz
instance:zF 33 f33 166:={}
theorem Bc9 {o:Option Addr} {p:Option Addr} {e f:Nat} {n:Option Addr} {g h:Nat} {r:Option Addr} {i j:Nat} {b:Option Addr} {c l:Nat}:zB 211 [(0,.slice a d k),(1,.slice q s t),(2,.pointer o),(6,.slice p e f),(7,.slice n g h),(8,.slice r i j),(9,.slice b c l)] [.slice a d k,.slice q s t,.pointer o,.pointer none,.pointer none,.slice none 0 0,.slice p e f,.slice n g h,.slice r i j,.slice b c l,.slice none 0 0]:=λ_=>zk
instance:zD 211 9 9:={}
instance:zD 211 5 5:={}
theorem BcD:zC 208 1 [(0,.pointer a)] [.pointer a] 215:=λ_=>zk
instance:zI 215 (.pointer none) 1 8:={}
instance:zI 208 (.slice none 0 0) 1 24:={}
instance:zD 211 3 3:={}
instance:zI 206 (.pointer none) 1 8:={}
instance:zD 211 4 4:={}
instance:zI 207 (.pointer none) 1 8:={}
end Go.Proofs.YtepmocimmmjinaaGreatDoor
namespace Go.Proofs.YtepmocimmmjinaaGreatDoor
open Go
instance C30:Sv.ei Tryz.prog 30 Tryz.f30 88:={}
theorem AQ:zB 60 [(0,.int .i64 b),(4,.int .i64 i),(3,.int .i64 m)] [.int .i64 b,.slice none 0 0,.slice none 0 0,.slice none 0 0,.slice none 0 0,.int .i64 0,.int .i64 0,.int .i64 0,.int .i64 0,.int .i64 0,.int .i64 0,.int .i64 m,.int .i64 i]:=λ_=>zk
instance C31:Sv.ei Tryz.prog 31 Tryz.f31 75:={}
end Go.Proofs.YtepmocimmmjinaaGreatDoor
namespace Go.Proofs.YtepmocimmmjinaaGreatDoor
open Go Go.Sv Tryz
instance I30:zI 30 (.agg #[.slice none 0 0,.slice none 0 0,.slice none 0 0]) 3 72:={}
instance:zF 6 f6 169:={}
theorem Bai:zB 30 [(1,.slice a d k)] [.slice none 0 0,.slice a d k,.slice none 0 0]:=λ_=>zk
instance:zD 30 1 1:={}
theorem Bc5:zB 62 [(0,.int .i64 b),(2,.int .u64 i)] [.int .i64 b,.slice none 0 0,.int .u64 i]:=λ_=>zk
theorem Ou {a m k:Value} (i:World):(Instr.build 64 [(0,.int .i64 b),(1,.agg #[c,g,h,j,l,n,o,p,r,u,v,w,x]),(2,.agg #[a,m,k])].toArray).run prog i= .ok (.agg [.int .i64 b,c,g,h,j,l,n,o,p,r,u,v,w,x,a,m,k,.string (bs [])].toArray) i:=zk
instance:zD 30 0 0:={}
theorem Baz {d e f b a:Value} (q:World):(Instr.buildSlice 22 1 [(0,.agg #[c,g,h,j,l,n,o,p,r,u,v,w,x,d,e,f,b,a])].toArray).run prog q= .ok (.slice (some ⟨q.heap.size,0,none⟩) 1 1) (q.alloc (.cells [c,g,h,j,l,n,o,p,r,u,v,w,x,d,e,f,b,a].toArray 64)):=zk
instance:zI 22 (.slice none 0 0) 1 24:={}
instance:zD 30 2 2:={}
theorem PA:zC 28 1 [(0,.int .u64 b)] [.int .u64 b] 43:=λ_=>zk
instance:zI 28 (.slice none 0 0) 1 24:={}
instance:zF 35 f35 16:={}
instance:zF 124 f124 16:={}
instance:zF 93 f93 16:={}
instance:zF 62 f62 16:={}
instance:zF 63 f63 54:={}
instance:zF 36 f36 17:={}
instance:zD 225 4 4:={}
instance:zF 15 f15 48:={}
instance FI:zI 66 (.agg #[.int .i64 0,.bool false,.int .i64 0,.int .i64 0,.int .i64 0,.int .u64 0]) 6 48:={}
instance:zD 134 3 15:={}
instance:zD 134 5 17:={}
theorem Og {d:Int} {f:Int}:zB 66 [(0,.int .i64 b),(1,.bool e),(2,.int .i64 i),(3,.int .i64 m),(4,.int .i64 d),(5,.int .u64 f)] [.int .i64 b,.bool e,.int .i64 i,.int .i64 m,.int .i64 d,.int .u64 f]:=λ_=>zk
instance:zF 7 f7 59:={}
instance I37:zI 37 (.agg #[.pointer none,.pointer none,.pointer none,.pointer none,.int .i64 0]) 5 40:={}
instance:zD 37 1 1:={}
instance:zD 37 3 3:={}
instance:zD 37 0 0:={}
instance:zI 32 (.pointer none) 1 8:={}
instance:zD 37 2 2:={}
instance:zI 34 (.pointer none) 1 8:={}
theorem vP:zB 37 [(1,.pointer a),(3,.pointer q),(4,.int .i64 b)] [.pointer none,.pointer a,.pointer none,.pointer q,.int .i64 b]:=λ_=>zk
instance:zF 263 f263 18:={}
instance:zD 321 2 4:={}
instance:zD 321 1 3:={}
instance:zF 258 f258 61:={}
instance:zD 321 0 0:={}
instance:zD 321 3 5:={}
instance:zF 185 f185 18:={}
instance:zF 187 f187 43:={}
instance:zF 172 f172 39:={}
instance:zD 225 3 3:={}
instance:zF 170 f170 32:={}
instance:zF 95 f95 64:={}
instance:zF 94 f94 15:={}
instance:zD 228 2 2:={}
instance:zF 96 f96 58:={}
instance:zD 228 1 1:={}
instance:zF 37 f37 82:={}
theorem Oa:zB 233 [(0,.int .i64 b),(1,.bool e),(2,.int .u64 i)] [.int .i64 b,.bool e,.int .u64 i]:=λ_=>zk
theorem AW:zC 126 1 [(0,.agg #[c,g,h])] [c,g,h] 233:=λ_=>zk
instance:zI 233 (.agg #[.int .i64 0,.bool false,.int .u64 0]) 3 24:={}
instance:zF 173 f173 9:={}
instance:zF 242 f242 11:={}
instance:zF 292 f292 54:={}
instance:zF 244 f244 30:={}
instance:zF 245 f245 28:={}
instance:zF 174 f174 45:={}
instance:zF 97 f97 168:={}
instance:zD 255 3 3:={}
instance:zD 255 2 2:={}
theorem T34:f34.ntmps=18:=zk
instance:zF 38 f38 27:={}
instance:zD 233 1 1:={}
instance:zD 233 0 0:={}
instance:zF 9 f9 37:={}
theorem T9:f9.ntmps=37:=zk
instance:zF 12 f12 41:={}
instance:zF 39 f39 25:={}
instance:zD 134 4 16:={}
instance:zF 99 f99 60:={}
theorem eU:zB 53 [(0,.int .i64 b),(1,.int .u64 i),(2,.int .i64 m),(3,.bool e)] [.int .i64 b,.int .u64 i,.int .i64 m,.bool e,.int .u64 0]:=λ_=>zk
instance:zF 40 f40 43:={}
instance:zF 49 f49 55:={}
theorem T49:f49.ntmps=55:=zk
end Go.Proofs.YtepmocimmmjinaaGreatDoor
namespace Go.Proofs.YtepmocimmmjinaaGreatDoor
open Go
instance C13:Sv.ei Tryz.prog 13 Tryz.f13 8:={}
theorem BcF (a:ByteArray) (b:ByteArray) (c:ByteArray) (d:ByteArray) (e:ByteArray) (f:ByteArray) (g:ByteArray):zB 141 [(0,.string a),(1,.string b),(2,.string c),(3,.string d),(4,.string e),(5,.string f),(6,.string g)] [.string a,.string b,.string c,.string d,.string e,.string f,.string g]:=λ_=>zk
instance PD:Sv.ml Tryz.prog 48 2 2:={}
instance C171:Sv.ei Tryz.prog 171 Tryz.f171 22:={}
instance FJ:Sv.ml Tryz.prog 225 5 5:={}
theorem Ol:zB 233 [(0,.int .i64 b),(2,.int .u64 i)] [.int .i64 b,.bool false,.int .u64 i]:=λ_=>zk
instance C312:Sv.ei Tryz.prog 312 Tryz.f312 6:={}
end Go.Proofs.YtepmocimmmjinaaGreatDoor
namespace Go.Proofs.YtepmocimmmjinaaGreatDoor
open Go Go.Sv Tryz
instance:zF 295 f295 11:={}
instance:zF 296 f296 18:={}
instance:zF 255 f255 86:={}
instance:zF 180 f180 72:={}
instance:zD 327 0 0:={}
instance:zD 327 1 1:={}
instance:zF 198 f198 23:={}
instance:zF 184 f184 180:={}
instance:zD 327 3 3:={}
instance:zF 267 f267 108:={}
instance:zF 201 f201 14:={}
instance:zF 183 f183 59:={}
instance:zD 329 2 2:={}
instance:zD 329 3 3:={}
instance:zF 254 f254 58:={}
instance:zD 329 0 0:={}
instance:zD 329 4 4:={}
instance:zF 182 f182 108:={}
instance:zF 181 f181 15:={}
instance:zD 329 5 5:={}
instance:zF 123 f123 128:={}
instance:zF 104 f104 63:={}
instance:zF 108 f108 16:={}
instance:zF 106 f106 23:={}
instance:zF 102 f102 16:={}
instance:zF 103 f103 34:={}
instance:zD 211 2 2:={}
instance:zF 105 f105 34:={}
instance:zF 61 f61 40:={}
instance:zF 43 f43 31:={}
instance:zF 48 f48 19:={}
instance:zF 46 f46 18:={}
instance:zD 211 8 8:={}
instance:zF 109 f109 24:={}
instance:zD 211 6 6:={}
instance:zF 110 f110 86:={}
instance:zD 211 1 1:={}
instance:zF 51 f51 26:={}
instance:zF 50 f50 61:={}
instance:zD 211 7 7:={}
instance:zF 119 f119 57:={}
theorem Ba3:zB 66 [] [.int .i64 0,.bool false,.int .i64 0,.int .i64 0,.int .i64 0,.int .u64 0]:=λ_=>zk
instance xi:zI 345 (.agg (List.replicate 256 (.int .u8 0)).toArray) 256 256:={}
instance FK:zI 346 (.agg (List.replicate 4096 (.int .u8 0)).toArray) 4096 4096:={}
instance:zF 114 f114 151:={}
instance:zF 56 f56 15:={}
instance:zF 101 f101 61:={}
instance:zF 107 f107 17:={}
instance:zF 42 f42 32:={}
theorem T42:f42.ntmps=32:=zk
instance:zF 47 f47 23:={}
theorem T47:f47.ntmps=23:=zk
instance:zF 45 f45 19:={}
instance:zD 134 6 18:={}
instance:zF 10 f10 27:={}
theorem T10:f10.ntmps=27:=zk
end Go.Proofs.YtepmocimmmjinaaGreatDoor
namespace Go.Proofs.YtepmocimmmjinaaGreatDoor
open Go
theorem T54:Tryz.f54.ntmps=121:=zk
end Go.Proofs.YtepmocimmmjinaaGreatDoor
namespace Go.Proofs.YtepmocimmmjinaaGreatDoor
open Go Go.Sv Tryz
instance:zF 41 f41 17:={}
instance:zD 48 5 5:={}
instance:zD 48 1 1:={}
instance:zF 55 f55 38:={}
instance:zF 60 f60 60:={}
instance:zI 48 (.agg #[.int .i64 0,.int .i64 0,.int .i64 0,.int .u64 0,.bool false,.bool false]) 6 40:={}
instance:zD 37 4 4:={}
instance:zD 48 4 4:={}
instance:zD 48 3 3:={}
instance:zF 14 f14 166:={}
instance:zD 48 0 0:={}
end Go.Proofs.YtepmocimmmjinaaGreatDoor
namespace Go.Proofs.YtepmocimmmjinaaGreatDoor
open Go
instance C3:Sv.ei Tryz.prog 3 Tryz.f3 154:={}
instance C5:Sv.ei Tryz.prog 5 Tryz.f5 99:={}
end Go.Proofs.YtepmocimmmjinaaGreatDoor
namespace Go.Proofs.YtepmocimmmjinaaGreatDoor
open Go Go.Sv Tryz
instance:zF 92 f92 26:={}
instance:zD 124 3 3:={}
instance dC:zF 34 f34 18:={}
instance:zF 112 f112 37:={}
end Go.Proofs.YtepmocimmmjinaaGreatDoor
