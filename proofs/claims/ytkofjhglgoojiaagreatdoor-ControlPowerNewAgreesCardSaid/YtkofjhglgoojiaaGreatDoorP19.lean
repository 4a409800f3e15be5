/-
  Joined.
-/
import Derived.Test.YtkofjhglgoojiaaGreatDoorP07
import Derived.Test.YtkofjhglgoojiaaGreatDoorP02
set_option linter.unusedSimpArgs false
set_option linter.unusedVariables false
namespace Go.Proofs.YtkofjhglgoojiaaGreatDoor.Rl
set_option maxRecDepth 100000
set_option maxHeartbeats 20000000
open Go.Tk Go.Sv Go.Rails
attribute [local irreducible] KV SV OV Step Code.wp wpList Exit.then Exit.inBlock Blk OS Big Bun
theorem cloneRail_fn {A:Option Addr} {n c:Nat} {ys:List Rail} {w:World} (hr:RS w railK A ys) (hl:ys.length≤1000000) (hn:n=ys.length):Fx Tryz.prog 149 [.slice A n c] w [] no (fun v L=> ∃A2 c2,v= .slice A2 n c2∧L=[OS 183 railK A2 c2 ys]):=by
 subst hn
 refine Fb ?_
 intro I hro hI
 refine J9 ?_
 refine RV.op (OV.split gno (Step.nilSl Tryz.underlying24 rfl rfl) rfl (fun hnil=>?_) (fun hnil=>?_))
 subst hnil
 obtain rfl:=RS.nil_of hr
 refine J10 ?_
 exact KV.ret1 rfl rfl _ (fun _ h=>h.nilOS) ⟨none,0,rfl,rfl⟩
 refine J7 ?_
 refine RV.op (OV.buildSlice (K:=railK) ([]) rfl (Bs24_0_) rfl rfl (by omega) gno rfl (fun b3_0=>?_))
 refine J1 ?_
 refine RV.op (Ye 0 rfl rfl rfl rfl rfl (fun w h=>h.rs hr (fun _=>hI _)) (by simp only[List.length_nil];omega) (fun b3_2a b3_2c=>?_))
 refine J4 ?_
 exact Rb rfl rfl ⟨_,_,rfl,rfl⟩
theorem cloneInt_fn {A:Option Addr} {n c:Nat} {ys:List Int} {w:World} (hr:RS w (intK .i64) A ys) (hl:ys.length≤1000000) (hn:n=ys.length):Fx Tryz.prog 41 [.slice A n c] w [] no (fun v L=> ∃A2 c2,v= .slice A2 n c2∧L=[OS 3 (intK .i64) A2 c2 ys]):=by
 subst hn
 refine Fb ?_
 intro I hro hI
 refine J9 ?_
 refine RV.op (OV.split gno (Step.nilSl Tryz.underlying32 rfl rfl) rfl (fun hnil=>?_) (fun hnil=>?_))
 subst hnil
 obtain rfl:=RS.nil_of hr
 refine J10 ?_
 exact KV.ret1 rfl rfl _ (fun _ h=>h.nilOS) ⟨none,0,rfl,rfl⟩
 refine J7 ?_
 refine RV.op (OV.buildSlice (K:=(intK .i64)) ([]) rfl (Bs32_0_) rfl rfl (by omega) gno rfl (fun b3_0=>?_))
 refine J1 ?_
 refine RV.op (Ye 0 rfl rfl rfl rfl rfl (fun w h=>h.rs hr (fun _=>hI _)) (by simp only[List.length_nil];omega) (fun b3_2a b3_2c=>?_))
 refine J4 ?_
 exact Rb rfl rfl ⟨_,_,rfl,rfl⟩
theorem index_fn {A:Option Addr} {n c:Nat} {ys:List Int} (x:Int) {w:World} (hr:RS w (intK .i64) A ys) (hl:ys.length≤1000000) (hn:n=ys.length):Fx Tryz.prog 151 [.slice A n c,.int .i64 x] w [] no (fun v L=>v= .int .i64 (idxM x ys ys.length)∧L=[]):=by
 subst hn
 refine Fb ?_
 intro I hro hI
 refine J14 ?_
 refine E0 ?_
 refine CV.loopI (α:=Nat) (fun j=>j≤ys.length∧idxM x ys j= -1) (fun j=>ys.length-j) (fun j=>[(0,.slice A ys.length c),(1,.int .i64 x),(7,.int .i64 ys.length),(8,.int .i64 j)]) (fun _=>Hp I w []) 0 ⟨Nat.zero_le _,rfl⟩ (sb rfl) (fun _ h=>h) ?_
 intro j hj
 refine J2 ?_
 refine Jlt rfl rfl (fun hlt2=>?_) (fun hlt2=>?_)
 refine J15 ?_
 refine J5 ?_
 refine Jr (Tc rfl (fun w h=>(h.rs hr (fun _=>hI _)).cell0 (by omega) rfl)) ?_
 refine Jeq rfl rfl (fun hq=>?_) (fun hq=>?_)
 refine J15 ?_
 exact Rb rfl rfl ⟨by rw[idxM_stop (k:=j) (by omega) hj.2 hq.symm],rfl⟩
 refine J11 ?_
 refine E0 ?_
 refine KV.loopI (j+1) ⟨by omega,by rw[idxM,if_pos hj.2,if_neg (fun e=>hq e.symm)]⟩ (by omega) (sb rfl) (fun _ h=>h)
 obtain rfl:j=ys.length:=by omega
 refine J15 ?_
 exact Rb rfl rfl ⟨by rw[hj.2],rfl⟩
theorem KL:KeyT Tryz.prog 138 linkV:=KeyT.struct Tryz.underlying138 (fun em x w=>by kernel_rfl) (fun x y w=>by
 have h:=SEQ138 9998 x.con y.con x.sup y.sup w
 rw[show decide (x=y)=decide (x.con=y.con∧x.sup=y.sup) from by rw[decide_eq_decide];cases x;cases y;simp]
 exact h)
theorem checkLinks_fn {A:Option Addr} {c:Nat} {links:List Link} (n:Int) {w:World} (hr:RS w linkK A links) (hl:links.length≤1000000):Fx Tryz.prog 109 [.int .i64 n,.slice A links.length c] w [] no (fun v L=>v= .int .i64 (clM n links)∧L=[]):=by
 refine Fb ?_
 intro I hro hI
 refine J9 ?_
 refine Jlt rfl rfl (fun cc1=>?_) (fun cc1=>?_)
 refine J15 ?_
 refine J4 ?_
 refine E0 ?_
 exact Rb rfl rfl ⟨by rw[clM,if_pos (by omega)],rfl⟩
 refine J2 ?_
 refine Jgt rfl rfl (fun cc2=>?_) (fun cc2=>?_)
 refine J15 ?_
 refine J1 ?_
 refine E0 ?_
 exact Rb rfl rfl ⟨by rw[clM,if_pos (by omega)],rfl⟩
 refine J4 ?_
 refine Jgt rfl rfl (fun cc3=>?_) (fun cc3=>?_)
 refine J11 ?_
 refine E0 ?_
 exact Rb rfl rfl ⟨by rw[clM,if_pos (by omega)],rfl⟩
 refine J15 ?_
 refine E0 ?_
 have hn0: ¬(n<0∨128<n∨(1024:Int)<links.length):=by omega
 refine CV.loopI (α:=Nat) (fun j=>j≤links.length∧ ∀i,i<j→okL n (links.getD i linkK.d)) (fun j=>links.length-j) (fun j=>[(0,.int .i64 n),(1,.slice A links.length c),(21,.slice A links.length c),(22,.int .i64 links.length),(23,.int .i64 j)]) (fun _=>Hp I w []) 0 ⟨Nat.zero_le _,fun _ h=>by omega⟩ (sb rfl) (fun _ h=>h) ?_
 intro j hj
 refine J2 ?_
 refine Jlt rfl rfl (fun hlt2=>?_) (fun hlt2=>?_)
 refine J12 ?_
 refine RV.op (Ya (fun b5_2=>?_))
 refine Zw 0 [_,_] #[_,_] ?_
 refine J5 ?_
 refine Jl 0 rfl rfl rfl ?_
 refine Jlt rfl rfl (fun cc4=>?_) (fun cc4=>?_)
 refine J15 ?_
 refine J15 ?_
 refine J1 ?_
 refine E0 ?_
 exact Rb rfl rfl ⟨by rw[clM,if_neg hn0,if_neg (fun hall=>by have:=hall j (by omega);unfold okL at this;omega)],rfl⟩
 refine J2 ?_
 refine Jl 0 rfl rfl rfl ?_
 refine J1 ?_
 refine Jge rfl rfl (fun cc5=>?_) (fun cc5=>?_)
 refine J15 ?_
 refine J11 ?_
 refine E0 ?_
 exact Rb rfl rfl ⟨by rw[clM,if_neg hn0,if_neg (fun hall=>by have:=hall j (by omega);unfold okL at this;omega)],rfl⟩
 refine J3 ?_
 refine Jl 0 rfl rfl rfl ?_
 refine Jlt rfl rfl (fun cc6=>?_) (fun cc6=>?_)
 refine J15 ?_
 refine J6 ?_
 refine E0 ?_
 exact Rb rfl rfl ⟨by rw[clM,if_neg hn0,if_neg (fun hall=>by have:=hall j (by omega);unfold okL at this;omega)],rfl⟩
 refine J3 ?_
 refine Jl 0 rfl rfl rfl ?_
 refine J1 ?_
 refine Jge rfl rfl (fun cc7=>?_) (fun cc7=>?_)
 refine J15 ?_
 refine E0 ?_
 exact Rb rfl rfl ⟨by rw[clM,if_neg hn0,if_neg (fun hall=>by have:=hall j (by omega);unfold okL at this;omega)],rfl⟩
 refine J12 ?_
 refine E0 ?_
 refine KV.loopI (j+1) ⟨by omega,fun i hi=>by by_cases e:i=j;(subst e;unfold okL;omega);exact hj.2 i (by omega)⟩ (by omega) (sb rfl) (fun _ h=>h)
 obtain rfl:j=links.length:=by omega
 refine J13 ?_
 refine RV.op (OV.makeMap (κ:=Link) (ν:=Bool) linkV Value.bool Tryz.underlying329 rfl gno rfl (fun mb=>?_))
 refine J12 ?_
 refine E1 ?_
 refine CV.loopI (α:=Nat) (fun j=>j≤links.length∧(links.take j).Nodup) (fun j=>links.length-j) (fun j=>[(7,.map (some mb)),(51,.slice A links.length c),(52,.int .i64 links.length),(53,.int .i64 j)]) (fun j=>Hp I w [OM mb linkV Value.bool ((links.take j).map fun l=>(l,true))]) 0 ⟨Nat.zero_le _,by simp⟩ (sb rfl) (fun _ h=>h) ?_
 intro k hk
 refine J2 ?_
 refine Jlt rfl rfl (fun hlt3=>?_) (fun hlt3=>?_)
 refine J12 ?_
 refine RV.op (Ya (fun b12_2=>?_))
 refine Zw 1 [_,_] #[_,_] ?_
 refine J7 ?_
 refine Jr (Step.lookup 0 (vf:=Value.bool) (zv:=false) (links.getD k linkK.d) Tryz.underlying329 KL I4.h rfl rfl rfl) ?_
 rw[mget_dec]
 by_cases hnin:links.getD k linkK.d∈links.take k
 rw[decide_eq_true hnin]
 refine J15 ?_
 refine E0 ?_
 exact Rb rfl rfl ⟨by rw[clM,if_neg hn0,if_pos hj.2,if_neg (not_nodup links k (by omega) hnin)],rfl⟩
 rw[decide_eq_false hnin]
 refine J8 ?_
 refine RV.op (OV.mapInsert 0 (links.getD k linkK.d) true Tryz.underlying329 KL rfl rfl rfl rfl (by rw[mget_true,if_neg hnin]) gno ?_)
 refine J8 ?_
 refine E1 ?_
 refine KV.loopI (k+1) ⟨by omega,nodup_take_succ links k (by omega) hk.2 hnin⟩ (by omega) (sb rfl) (fun _ h=>by rw[take_succ_getD links k linkK.d (by omega),List.map_append];exact h)
 obtain rfl:k=links.length:=by omega
 rw[List.take_length] at hk
 refine J15 ?_
 refine E0 ?_
 exact Rb rfl rfl ⟨by rw[clM,if_neg hn0,if_pos hj.2,if_pos hk.2],rfl⟩
end Go.Proofs.YtkofjhglgoojiaaGreatDoor.Rl
