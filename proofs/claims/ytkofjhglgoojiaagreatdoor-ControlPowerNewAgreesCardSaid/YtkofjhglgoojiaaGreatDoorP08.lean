/-
  Joined.
-/
import Derived.Test.YtkofjhglgoojiaaGreatDoorP07
import Derived.Test.YtkofjhglgoojiaaGreatDoorP03
set_option linter.unusedSimpArgs false
set_option linter.unusedVariables false
namespace Go.Proofs.YtkofjhglgoojiaaGreatDoor.Dv
set_option maxRecDepth 100000
set_option maxHeartbeats 20000000
open Go.Tk Go.Sv Go.Drv
attribute [local irreducible] KV SV OV Step Code.wp wpList Exit.then Exit.inBlock Blk OS Big Bun
theorem isDigit_fn (c:UInt8):FxP Tryz.prog 195 [.int .u8 (c.toNat:Int)] (.bool (digB c)):=by
 refine Fp ?_
 intro wp
 refine J8 ?_
 refine Jge rfl rfl (fun cc1=>?_) (fun cc1=>?_)
 refine J2 ?_
 refine Jle rfl rfl (fun cc2=>?_) (fun cc2=>?_)
 refine J5 ?_
 exact KV.retP1 rfl rfl (by unfold digB;first|(exfalso;omega)|rw[decide_eq_true (show 48≤c.toNat∧c.toNat≤57 by omega)]|rw[decide_eq_false (show ¬(48≤c.toNat∧c.toNat≤57) by omega)])
 refine J5 ?_
 exact KV.retP1 rfl rfl (by unfold digB;first|(exfalso;omega)|rw[decide_eq_true (show 48≤c.toNat∧c.toNat≤57 by omega)]|rw[decide_eq_false (show ¬(48≤c.toNat∧c.toNat≤57) by omega)])
 refine J8 ?_
 exact KV.retP1 rfl rfl (by unfold digB;first|(exfalso;omega)|rw[decide_eq_true (show 48≤c.toNat∧c.toNat≤57 by omega)]|rw[decide_eq_false (show ¬(48≤c.toNat∧c.toNat≤57) by omega)])
theorem isWord_fn (c:UInt8):FxP Tryz.prog 178 [.int .u8 (c.toNat:Int)] (.bool (wrdB c)):=by
 refine Fp ?_
 intro wp
 refine J8 ?_
 refine Jge rfl rfl (fun cc1=>?_) (fun cc1=>?_)
 refine J2 ?_
 refine Jle rfl rfl (fun cc2=>?_) (fun cc2=>?_)
 refine J5 ?_
 refine RV.op (OV.skipU rfl rfl ?_)
 refine RV.op (OV.skipU rfl rfl ?_)
 refine J14 ?_
 exact KV.retP1 rfl rfl (by unfold wrdB;first|(exfalso;omega)|rw[show ltrB c=true from decide_eq_true (by omega),Bool.true_or]|rw[show ltrB c=false from decide_eq_false (by omega),Bool.false_or])
 refine J3 ?_
 refine Jge rfl rfl (fun cc3=>?_) (fun cc3=>?_)
 refine J2 ?_
 refine Jle rfl rfl (fun cc4=>?_) (fun cc4=>?_)
 refine J14 ?_
 exact KV.retP1 rfl rfl (by unfold wrdB;first|(exfalso;omega)|rw[show ltrB c=true from decide_eq_true (by omega),Bool.true_or]|rw[show ltrB c=false from decide_eq_false (by omega),Bool.false_or])
 refine J4 ?_
 refine Jeq rfl rfl (fun cc5=>?_) (fun cc5=>?_)
 refine J9 ?_
 exact KV.retP1 rfl rfl (by unfold wrdB;first|(exfalso;omega)|rw[show ltrB c=true from decide_eq_true (by omega),Bool.true_or]|rw[show ltrB c=false from decide_eq_false (by omega),Bool.false_or])
 refine J3 ?_
 refine RV.op (Yp rfl (isDigit_fn c) ?_)
 refine J5 ?_
 exact KV.retP1 rfl rfl (by unfold wrdB;first|(exfalso;omega)|rw[show ltrB c=true from decide_eq_true (by omega),Bool.true_or]|rw[show ltrB c=false from decide_eq_false (by omega),Bool.false_or])
 refine J7 ?_
 refine Jeq rfl rfl (fun cc6=>?_) (fun cc6=>?_)
 refine J9 ?_
 exact KV.retP1 rfl rfl (by unfold wrdB;first|(exfalso;omega)|rw[show ltrB c=true from decide_eq_true (by omega),Bool.true_or]|rw[show ltrB c=false from decide_eq_false (by omega),Bool.false_or])
 refine J3 ?_
 refine RV.op (Yp rfl (isDigit_fn c) ?_)
 refine J5 ?_
 exact KV.retP1 rfl rfl (by unfold wrdB;first|(exfalso;omega)|rw[show ltrB c=true from decide_eq_true (by omega),Bool.true_or]|rw[show ltrB c=false from decide_eq_false (by omega),Bool.false_or])
 refine J6 ?_
 refine Jge rfl rfl (fun cc7=>?_) (fun cc7=>?_)
 refine J2 ?_
 refine Jle rfl rfl (fun cc8=>?_) (fun cc8=>?_)
 refine J14 ?_
 exact KV.retP1 rfl rfl (by unfold wrdB;first|(exfalso;omega)|rw[show ltrB c=true from decide_eq_true (by omega),Bool.true_or]|rw[show ltrB c=false from decide_eq_false (by omega),Bool.false_or])
 refine J4 ?_
 refine Jeq rfl rfl (fun cc9=>?_) (fun cc9=>?_)
 refine J9 ?_
 exact KV.retP1 rfl rfl (by unfold wrdB;first|(exfalso;omega)|rw[show ltrB c=true from decide_eq_true (by omega),Bool.true_or]|rw[show ltrB c=false from decide_eq_false (by omega),Bool.false_or])
 refine J3 ?_
 refine RV.op (Yp rfl (isDigit_fn c) ?_)
 refine J5 ?_
 exact KV.retP1 rfl rfl (by unfold wrdB;first|(exfalso;omega)|rw[show ltrB c=true from decide_eq_true (by omega),Bool.true_or]|rw[show ltrB c=false from decide_eq_false (by omega),Bool.false_or])
 refine J7 ?_
 refine Jeq rfl rfl (fun cc10=>?_) (fun cc10=>?_)
 refine J9 ?_
 exact KV.retP1 rfl rfl (by unfold wrdB;first|(exfalso;omega)|rw[show ltrB c=true from decide_eq_true (by omega),Bool.true_or]|rw[show ltrB c=false from decide_eq_false (by omega),Bool.false_or])
 refine J3 ?_
 refine RV.op (Yp rfl (isDigit_fn c) ?_)
 refine J5 ?_
 exact KV.retP1 rfl rfl (by unfold wrdB;first|(exfalso;omega)|rw[show ltrB c=true from decide_eq_true (by omega),Bool.true_or]|rw[show ltrB c=false from decide_eq_false (by omega),Bool.false_or])
theorem rword_fn (c:UInt8):FxP Tryz.prog 117 [.int .u8 (c.toNat:Int)] (.bool (wrdB c)):=by
 refine Fp ?_
 intro wp
 refine J8 ?_
 refine Jge rfl rfl (fun cc1=>?_) (fun cc1=>?_)
 refine J2 ?_
 refine Jle rfl rfl (fun cc2=>?_) (fun cc2=>?_)
 refine J5 ?_
 refine RV.op (OV.skipU rfl rfl ?_)
 refine RV.op (OV.skipU rfl rfl ?_)
 refine J10 ?_
 refine RV.op (OV.skipU rfl rfl ?_)
 refine RV.op (OV.skipU rfl rfl ?_)
 refine J6 ?_
 exact KV.retP1 rfl rfl (by unfold wrdB;first|(exfalso;omega)|rw[show ltrB c=true from decide_eq_true (by omega),Bool.true_or]|rw[show ltrB c=false from decide_eq_false (by omega),Bool.false_or,show digB c=true from decide_eq_true (by omega)]|rw[show ltrB c=false from decide_eq_false (by omega),Bool.false_or,show digB c=false from decide_eq_false (by omega)])
 refine J3 ?_
 refine Jge rfl rfl (fun cc3=>?_) (fun cc3=>?_)
 refine J2 ?_
 refine Jle rfl rfl (fun cc4=>?_) (fun cc4=>?_)
 refine J10 ?_
 refine RV.op (OV.skipU rfl rfl ?_)
 refine RV.op (OV.skipU rfl rfl ?_)
 refine J6 ?_
 exact KV.retP1 rfl rfl (by unfold wrdB;first|(exfalso;omega)|rw[show ltrB c=true from decide_eq_true (by omega),Bool.true_or]|rw[show ltrB c=false from decide_eq_false (by omega),Bool.false_or,show digB c=true from decide_eq_true (by omega)]|rw[show ltrB c=false from decide_eq_false (by omega),Bool.false_or,show digB c=false from decide_eq_false (by omega)])
 refine J4 ?_
 refine Jeq rfl rfl (fun cc5=>?_) (fun cc5=>?_)
 refine J5 ?_
 refine RV.op (OV.skipU rfl rfl ?_)
 refine RV.op (OV.skipU rfl rfl ?_)
 refine J6 ?_
 exact KV.retP1 rfl rfl (by unfold wrdB;first|(exfalso;omega)|rw[show ltrB c=true from decide_eq_true (by omega),Bool.true_or]|rw[show ltrB c=false from decide_eq_false (by omega),Bool.false_or,show digB c=true from decide_eq_true (by omega)]|rw[show ltrB c=false from decide_eq_false (by omega),Bool.false_or,show digB c=false from decide_eq_false (by omega)])
 refine J3 ?_
 refine Jge rfl rfl (fun cc6=>?_) (fun cc6=>?_)
 refine J2 ?_
 refine Jle rfl rfl (fun cc7=>?_) (fun cc7=>?_)
 refine J6 ?_
 exact KV.retP1 rfl rfl (by unfold wrdB;first|(exfalso;omega)|rw[show ltrB c=true from decide_eq_true (by omega),Bool.true_or]|rw[show ltrB c=false from decide_eq_false (by omega),Bool.false_or,show digB c=true from decide_eq_true (by omega)]|rw[show ltrB c=false from decide_eq_false (by omega),Bool.false_or,show digB c=false from decide_eq_false (by omega)])
 refine J6 ?_
 exact KV.retP1 rfl rfl (by unfold wrdB;first|(exfalso;omega)|rw[show ltrB c=true from decide_eq_true (by omega),Bool.true_or]|rw[show ltrB c=false from decide_eq_false (by omega),Bool.false_or,show digB c=true from decide_eq_true (by omega)]|rw[show ltrB c=false from decide_eq_false (by omega),Bool.false_or,show digB c=false from decide_eq_false (by omega)])
 refine J9 ?_
 exact KV.retP1 rfl rfl (by unfold wrdB;first|(exfalso;omega)|rw[show ltrB c=true from decide_eq_true (by omega),Bool.true_or]|rw[show ltrB c=false from decide_eq_false (by omega),Bool.false_or,show digB c=true from decide_eq_true (by omega)]|rw[show ltrB c=false from decide_eq_false (by omega),Bool.false_or,show digB c=false from decide_eq_false (by omega)])
 refine J7 ?_
 refine Jeq rfl rfl (fun cc8=>?_) (fun cc8=>?_)
 refine J5 ?_
 refine RV.op (OV.skipU rfl rfl ?_)
 refine RV.op (OV.skipU rfl rfl ?_)
 refine J6 ?_
 exact KV.retP1 rfl rfl (by unfold wrdB;first|(exfalso;omega)|rw[show ltrB c=true from decide_eq_true (by omega),Bool.true_or]|rw[show ltrB c=false from decide_eq_false (by omega),Bool.false_or,show digB c=true from decide_eq_true (by omega)]|rw[show ltrB c=false from decide_eq_false (by omega),Bool.false_or,show digB c=false from decide_eq_false (by omega)])
 refine J3 ?_
 refine Jge rfl rfl (fun cc9=>?_) (fun cc9=>?_)
 refine J2 ?_
 refine Jle rfl rfl (fun cc10=>?_) (fun cc10=>?_)
 refine J6 ?_
 exact KV.retP1 rfl rfl (by unfold wrdB;first|(exfalso;omega)|rw[show ltrB c=true from decide_eq_true (by omega),Bool.true_or]|rw[show ltrB c=false from decide_eq_false (by omega),Bool.false_or,show digB c=true from decide_eq_true (by omega)]|rw[show ltrB c=false from decide_eq_false (by omega),Bool.false_or,show digB c=false from decide_eq_false (by omega)])
 refine J6 ?_
 exact KV.retP1 rfl rfl (by unfold wrdB;first|(exfalso;omega)|rw[show ltrB c=true from decide_eq_true (by omega),Bool.true_or]|rw[show ltrB c=false from decide_eq_false (by omega),Bool.false_or,show digB c=true from decide_eq_true (by omega)]|rw[show ltrB c=false from decide_eq_false (by omega),Bool.false_or,show digB c=false from decide_eq_false (by omega)])
 refine J9 ?_
 exact KV.retP1 rfl rfl (by unfold wrdB;first|(exfalso;omega)|rw[show ltrB c=true from decide_eq_true (by omega),Bool.true_or]|rw[show ltrB c=false from decide_eq_false (by omega),Bool.false_or,show digB c=true from decide_eq_true (by omega)]|rw[show ltrB c=false from decide_eq_false (by omega),Bool.false_or,show digB c=false from decide_eq_false (by omega)])
 refine J6 ?_
 refine Jge rfl rfl (fun cc11=>?_) (fun cc11=>?_)
 refine J2 ?_
 refine Jle rfl rfl (fun cc12=>?_) (fun cc12=>?_)
 refine J10 ?_
 refine RV.op (OV.skipU rfl rfl ?_)
 refine RV.op (OV.skipU rfl rfl ?_)
 refine J6 ?_
 exact KV.retP1 rfl rfl (by unfold wrdB;first|(exfalso;omega)|rw[show ltrB c=true from decide_eq_true (by omega),Bool.true_or]|rw[show ltrB c=false from decide_eq_false (by omega),Bool.false_or,show digB c=true from decide_eq_true (by omega)]|rw[show ltrB c=false from decide_eq_false (by omega),Bool.false_or,show digB c=false from decide_eq_false (by omega)])
 refine J4 ?_
 refine Jeq rfl rfl (fun cc13=>?_) (fun cc13=>?_)
 refine J5 ?_
 refine RV.op (OV.skipU rfl rfl ?_)
 refine RV.op (OV.skipU rfl rfl ?_)
 refine J6 ?_
 exact KV.retP1 rfl rfl (by unfold wrdB;first|(exfalso;omega)|rw[show ltrB c=true from decide_eq_true (by omega),Bool.true_or]|rw[show ltrB c=false from decide_eq_false (by omega),Bool.false_or,show digB c=true from decide_eq_true (by omega)]|rw[show ltrB c=false from decide_eq_false (by omega),Bool.false_or,show digB c=false from decide_eq_false (by omega)])
 refine J3 ?_
 refine Jge rfl rfl (fun cc14=>?_) (fun cc14=>?_)
 refine J2 ?_
 refine Jle rfl rfl (fun cc15=>?_) (fun cc15=>?_)
 refine J6 ?_
 exact KV.retP1 rfl rfl (by unfold wrdB;first|(exfalso;omega)|rw[show ltrB c=true from decide_eq_true (by omega),Bool.true_or]|rw[show ltrB c=false from decide_eq_false (by omega),Bool.false_or,show digB c=true from decide_eq_true (by omega)]|rw[show ltrB c=false from decide_eq_false (by omega),Bool.false_or,show digB c=false from decide_eq_false (by omega)])
 refine J6 ?_
 exact KV.retP1 rfl rfl (by unfold wrdB;first|(exfalso;omega)|rw[show ltrB c=true from decide_eq_true (by omega),Bool.true_or]|rw[show ltrB c=false from decide_eq_false (by omega),Bool.false_or,show digB c=true from decide_eq_true (by omega)]|rw[show ltrB c=false from decide_eq_false (by omega),Bool.false_or,show digB c=false from decide_eq_false (by omega)])
 refine J9 ?_
 exact KV.retP1 rfl rfl (by unfold wrdB;first|(exfalso;omega)|rw[show ltrB c=true from decide_eq_true (by omega),Bool.true_or]|rw[show ltrB c=false from decide_eq_false (by omega),Bool.false_or,show digB c=true from decide_eq_true (by omega)]|rw[show ltrB c=false from decide_eq_false (by omega),Bool.false_or,show digB c=false from decide_eq_false (by omega)])
 refine J7 ?_
 refine Jeq rfl rfl (fun cc16=>?_) (fun cc16=>?_)
 refine J5 ?_
 refine RV.op (OV.skipU rfl rfl ?_)
 refine RV.op (OV.skipU rfl rfl ?_)
 refine J6 ?_
 exact KV.retP1 rfl rfl (by unfold wrdB;first|(exfalso;omega)|rw[show ltrB c=true from decide_eq_true (by omega),Bool.true_or]|rw[show ltrB c=false from decide_eq_false (by omega),Bool.false_or,show digB c=true from decide_eq_true (by omega)]|rw[show ltrB c=false from decide_eq_false (by omega),Bool.false_or,show digB c=false from decide_eq_false (by omega)])
 refine J3 ?_
 refine Jge rfl rfl (fun cc17=>?_) (fun cc17=>?_)
 refine J2 ?_
 refine Jle rfl rfl (fun cc18=>?_) (fun cc18=>?_)
 refine J6 ?_
 exact KV.retP1 rfl rfl (by unfold wrdB;first|(exfalso;omega)|rw[show ltrB c=true from decide_eq_true (by omega),Bool.true_or]|rw[show ltrB c=false from decide_eq_false (by omega),Bool.false_or,show digB c=true from decide_eq_true (by omega)]|rw[show ltrB c=false from decide_eq_false (by omega),Bool.false_or,show digB c=false from decide_eq_false (by omega)])
 refine J6 ?_
 exact KV.retP1 rfl rfl (by unfold wrdB;first|(exfalso;omega)|rw[show ltrB c=true from decide_eq_true (by omega),Bool.true_or]|rw[show ltrB c=false from decide_eq_false (by omega),Bool.false_or,show digB c=true from decide_eq_true (by omega)]|rw[show ltrB c=false from decide_eq_false (by omega),Bool.false_or,show digB c=false from decide_eq_false (by omega)])
 refine J9 ?_
 exact KV.retP1 rfl rfl (by unfold wrdB;first|(exfalso;omega)|rw[show ltrB c=true from decide_eq_true (by omega),Bool.true_or]|rw[show ltrB c=false from decide_eq_false (by omega),Bool.false_or,show digB c=true from decide_eq_true (by omega)]|rw[show ltrB c=false from decide_eq_false (by omega),Bool.false_or,show digB c=false from decide_eq_false (by omega)])
theorem isName_fn (l:Bs):FxP Tryz.prog 183 [.string (bs l)] (.bool (isNm l)):=by
 refine Fp ?_
 intro wp
 refine J9 ?_
 refine RV.op (OV.split gno (Step.eqlStr (l2:=[]) rfl rfl) rfl (fun h0=>?_) (fun h0=>?_))
 refine J15 ?_
 refine J5 ?_
 exact KV.retP1 rfl rfl (by first|rw[isNm_f3 h2]|rw[isNm_f2 (by omega)]|rw[isNm_f1 (by rw[h0];decide)])
 refine J3 ?_
 refine Jgt rfl rfl (fun h1=>?_) (fun h1=>?_)
 refine J15 ?_
 refine J1 ?_
 exact KV.retP1 rfl rfl (by first|rw[isNm_f3 h2]|rw[isNm_f2 (by omega)]|rw[isNm_f1 (by rw[h0];decide)])
 refine J3 ?_
 refine Jr (Step.idxStr Tryz.underlying9 rfl rfl 0 rfl (by first|omega|(have:0<l.length:=List.length_pos_iff.2 h0;omega))) ?_
 refine RV.op (Yp rfl (isDigit_fn (l.getD 0 0)) ?_)
 refine J3 ?_
 refine KV.cases 15 rfl (fun cc1=>?_) (fun cc1=>?_)
 have h2:=cc1
 refine J8 ?_
 exact KV.retP1 rfl rfl (by first|rw[isNm_f3 h2]|rw[isNm_f2 (by omega)]|rw[isNm_f1 (by rw[h0];decide)])
 have h2:=cc1
 refine J12 ?_
 refine CV.loopI (fun(j:Nat)=>j≤l.length∧ ∀k,k<j→wrdB (l.getD k 0)=true) (fun(j:Nat)=>l.length-j) (fun(j:Nat)=>[(0,.string (bs l)),(17,.int .i64 l.length),(18,.int .i64 j)]) (fun(j:Nat)=>(fun w1=>w1=wp)) (0) ⟨Nat.zero_le _,fun k hk=>by omega⟩ (sb rfl) (fun _ h=>h) ?_
 intro j hinv
 refine J2 ?_
 refine Jlt rfl rfl (fun hj=>?_) (fun hj=>?_)
 refine J15 ?_
 refine J3 ?_
 refine Jr (Step.idxStr Tryz.underlying9 rfl rfl _ rfl (by first|omega|(have:0<l.length:=List.length_pos_iff.2 h0;omega))) ?_
 refine RV.op (Yp rfl (isWord_fn (l.getD j 0)) ?_)
 refine J3 ?_
 refine KV.cases 25 rfl (fun cc2=>?_) (fun cc2=>?_)
 have h3:wrdB (l.getD j 0)=false:=by have:=cc2;revert this;cases wrdB (l.getD j 0)<;>simp
 refine J12 ?_
 exact KV.retP1 rfl rfl (by rw[isNm_f4 (k:=j) (by omega) h3])
 have h3:wrdB (l.getD j 0)=true:=by have:=cc2;revert this;cases wrdB (l.getD j 0)<;>simp
 refine J9 ?_
 exact KV.loopI (z:=j) (j+1) ⟨by omega,fun k hk=>by by_cases e:k=j;(subst e;exact h3);exact hinv.2 k (by omega)⟩ (by omega) (sb rfl) (fun _ h=>h)
 refine J15 ?_
 exact KV.retP1 rfl rfl (by rw[isNm_t (List.length_pos_iff.2 h0) (by omega) h2 (fun k hk=>hinv.2 k (by omega))])
end Go.Proofs.YtkofjhglgoojiaaGreatDoor.Dv
