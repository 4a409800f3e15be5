/-
  Joined.
-/
import Derived.Test.YtkofjhglgoojiaaGreatDoorP20
set_option linter.unusedSimpArgs false
set_option linter.unusedVariables false
namespace Go.Proofs.YtkofjhglgoojiaaGreatDoor.Rl
set_option maxRecDepth 100000
set_option maxHeartbeats 20000000
open Go.Tk Go.Sv Go.Rails
attribute [local irreducible] KV SV OV Step Code.wp wpList Exit.then Exit.inBlock Blk OS Big Bun
theorem new_fn {A:Option Addr} {n c:Nat} {ys:List Rail} {w:World} (hr:RS w railK A ys) (hn:n=ys.length):Fx Tryz.prog 108 [.slice A n c] w [] no (fun v L=>(newE ys=0→ ∃b a,v= .tuple #[.pointer (some ⟨b,0,none⟩),.int .i64 0]∧L=robj 328 b a (new0 ys))∧(newE ys≠0→v= .tuple #[.pointer none,.int .i64 (newE ys)]∧L=[])):=by
 subst hn
 refine Fb ?_
 intro I hro hI
 refine J11 ?_
 refine Jgt rfl rfl (fun hlong=>?_) (fun hlong=>?_)
 refine J11 ?_
 refine E0 ?_
 have hE:newE ys=1:=newE_long hlong
 exact Rc rfl rfl rfl ⟨fun h0=>absurd h0 (by rw[hE];decide),fun _=>⟨by rw[hE],rfl⟩⟩
 refine J12 ?_
 refine KV.heap (fun w h=>h.nilOS (e:=138) (K:=linkK)) ?_
 refine J7 ?_
 refine E1 ?_
 refine CV.loop3 (fun j (_:Option Addr) (_:Nat)=>j≤ys.length∧ ∀i,i<j→ ¬badR ys.length (ys.getD i railK.d)) (fun j _ _=>ys.length-j) (fun j A1 c1=>[(0,.slice A ys.length c),(4,.slice A1 (lkM ys j).length c1),(11,.slice A ys.length c),(12,.int .i64 ys.length),(13,.int .i64 j)]) (fun j A1 c1=>Hp I w [OS 138 linkK A1 c1 (lkM ys j)]) 0 none 0 ⟨Nat.zero_le _,fun _ h=>by omega⟩ (sb rfl) (fun _ h=>h) ?_
 intro j A1 c1 hj
 have hll:=lkM_length ys j
 refine J2 ?_
 refine Jlt rfl rfl (fun hlt2=>?_) (fun hlt2=>?_)
 refine J13 ?_
 refine RV.op (Ya (fun b6_3=>?_))
 refine J1 ?_
 refine Zw 1 [_,_,_] #[_,_,_] ?_
 refine J6 ?_
 refine Jl 1 rfl rfl rfl ?_
 refine Jlt rfl rfl (fun cc1=>?_) (fun cc1=>?_)
 refine J15 ?_
 refine J15 ?_
 refine J3 ?_
 refine E0 ?_
 have hE:newE ys=1:=newE_bad hlong (j:=j) (by omega) (by unfold badR;omega)
 exact Rc rfl rfl rfl ⟨fun h0=>absurd h0 (by rw[hE];decide),fun _=>⟨by rw[hE],rfl⟩⟩
 refine J2 ?_
 refine Jl 1 rfl rfl rfl ?_
 refine J2 ?_
 refine Jge rfl rfl (fun cc2=>?_) (fun cc2=>?_)
 refine J15 ?_
 refine J12 ?_
 refine E0 ?_
 have hE:newE ys=1:=newE_bad hlong (j:=j) (by omega) (by unfold badR;omega)
 exact Rc rfl rfl rfl ⟨fun h0=>absurd h0 (by rw[hE];decide),fun _=>⟨by rw[hE],rfl⟩⟩
 refine J3 ?_
 refine Jl 1 rfl rfl rfl ?_
 refine Jgt rfl rfl (fun cc3=>?_) (fun cc3=>?_)
 refine J15 ?_
 refine J7 ?_
 refine E0 ?_
 have hE:newE ys=1:=newE_bad hlong (j:=j) (by omega) (by unfold badR;omega)
 exact Rc rfl rfl rfl ⟨fun h0=>absurd h0 (by rw[hE];decide),fun _=>⟨by rw[hE],rfl⟩⟩
 refine J3 ?_
 refine Jl 1 rfl rfl rfl ?_
 refine Jgt rfl rfl (fun cc4=>?_) (fun cc4=>?_)
 refine J15 ?_
 refine J2 ?_
 refine E0 ?_
 have hE:newE ys=1:=newE_bad hlong (j:=j) (by omega) (by unfold badR;omega)
 exact Rc rfl rfl rfl ⟨fun h0=>absurd h0 (by rw[hE];decide),fun _=>⟨by rw[hE],rfl⟩⟩
 refine J9 ?_
 refine Jl 1 rfl rfl rfl ?_
 refine Jge rfl rfl (fun hsu=>?_) (fun hsu=>?_)
 refine J7 ?_
 refine Jl 1 rfl rfl rfl ?_
 refine Jr (Step.build rfl (Bd138_0_1 _ _)) ?_
 refine RV.op (OV.buildSlice (K:=linkK) ([⟨_,_⟩]) rfl (Bs128_1_0 _ _) rfl rfl (by omega) gno rfl (fun b10_5=>?_))
 refine RV.op (Ye 0 rfl rfl rfl rfl rfl (fun w h=>h.os 2 rfl) (by simp only[List.length_cons,List.length_nil];omega) (fun b10_6a b10_6c=>?_))
 refine J9 ?_
 refine E1 ?_
 have hnb: ¬badR ys.length (ys.getD j railK.d):=by unfold badR;omega
 have hst: ∀i,i<j+1→ ¬badR ys.length (ys.getD i railK.d):=fun i hi=>by by_cases e:i=j;(subst e;exact hnb);exact hj.2 i (by omega)
 exact KV.loop3 (y:=A1) (z:=c1) (j+1) b10_6a b10_6c ⟨by omega,hst⟩ (by omega) ⟨rfl,by rw[lkM,if_pos hsu];rfl,rfl,rfl,rfl,trivial⟩ (fun _ h=>by rw[lkM,if_pos hsu];exact h)
 refine J11 ?_
 refine E1 ?_
 have hnb: ¬badR ys.length (ys.getD j railK.d):=by unfold badR;omega
 have hst: ∀i,i<j+1→ ¬badR ys.length (ys.getD i railK.d):=fun i hi=>by by_cases e:i=j;(subst e;exact hnb);exact hj.2 i (by omega)
 exact KV.loop3 (y:=A1) (z:=c1) (j+1) A1 c1 ⟨by omega,hst⟩ (by omega) ⟨rfl,by rw[lkM,if_neg hsu];rfl,rfl,rfl,rfl,trivial⟩ (fun _ h=>by rw[lkM,if_neg hsu];exact h)
 obtain rfl:j=ys.length:=by omega
 refine J15 ?_
 refine RV.op (Yc [] (F:=[_]) rfl rfl (fun w h=>check_fn ys.length (h.os 0 rfl) (by omega)) (fun v L' hp=>?_))
 obtain⟨rfl,rfl⟩:=hp
 refine J6 ?_
 refine Jne rfl rfl (fun hc=>?_) (fun hc=>?_)
 refine J12 ?_
 refine E0 ?_
 have hE:newE ys=chkM ys.length (lkM ys ys.length):=newE_chk hlong hj.2
 exact Rc rfl rfl rfl ⟨fun h0=>absurd (hE.symm.trans h0) hc,fun _=>⟨by rw[hE],rfl⟩⟩
 refine J6 ?_
 refine An (Hp I w []) 12 ?_
 refine W 0 ?_
 refine W 2 ?_
 refine W 3 ?_
 refine W 5 ?_
 refine W 6 ?_
 refine V3 1 4 7 ?_ ?_ ?_
 refine Yc [] (F:=[_]) rfl rfl (fun w h=>cloneRail_fn (h.rs hr (fun _=>hI _)) (by omega) rfl) (fun v L' hp=>?_)
 obtain⟨A0,c0,rfl,rfl⟩:=hp
 refine Wn ?_
 refine V2 4 7 ?_ ?_
 refine OV.make (K:=intK .i64) (ys.length) (ys.length) (0) Tryz.underlying32 I3.h rfl rfl rfl rfl rfl (by omega) (by omega) (by omega) gno rfl (fun b15_4=>?_)
 refine Wn ?_
 refine V1 7 ?_
 refine OV.make (K:=intK .u64) (ys.length) (ys.length) (0) Tryz.underlying25 I37.h rfl rfl rfl rfl rfl (by omega) (by omega) (by omega) gno rfl (fun b15_7=>?_)
 refine Wn ?_
 refine Wt 8 rfl (Step.build rfl (Bd328_0_1_2 _ _ _ _ _ _ _ _ _)) ?_
 refine V1 9 ?_
 refine Yb #[_,_,_,_] rfl rfl (fun b15_9=>?_)
 refine Wn ?_
 refine W 10 ?_
 refine W 11 ?_
 refine Vd ?_
 refine J2 ?_
 refine K4 [4,1,1,1] rfl ?_
 have hE:newE ys=0:=(newE_chk hlong hj.2).trans (Decidable.not_not.1 hc)
 exact Rc rfl rfl rfl ⟨fun _=>⟨_,⟨_,_,_,_,_,_⟩,rfl,rfl⟩,fun h0=>absurd hE h0⟩
 refine OV.make (K:=intK .u64) (ys.length) (ys.length) (0) Tryz.underlying25 I37.h rfl rfl rfl rfl rfl (by omega) (by omega) (by omega) gno rfl (fun b15_7=>?_)
 refine Wn ?_
 refine V1 4 ?_
 refine OV.make (K:=intK .i64) (ys.length) (ys.length) (0) Tryz.underlying32 I3.h rfl rfl rfl rfl rfl (by omega) (by omega) (by omega) gno rfl (fun b15_4=>?_)
 refine Wn ?_
 refine Wt 8 rfl (Step.build rfl (Bd328_0_1_2 _ _ _ _ _ _ _ _ _)) ?_
 refine V1 9 ?_
 refine Yb #[_,_,_,_] rfl rfl (fun b15_9=>?_)
 refine Wn ?_
 refine W 10 ?_
 refine W 11 ?_
 refine Vd ?_
 refine J2 ?_
 refine K4 [4,1,2,1] rfl ?_
 have hE:newE ys=0:=(newE_chk hlong hj.2).trans (Decidable.not_not.1 hc)
 exact Rc rfl rfl rfl ⟨fun _=>⟨_,⟨_,_,_,_,_,_⟩,rfl,rfl⟩,fun h0=>absurd hE h0⟩
 refine OV.make (K:=intK .i64) (ys.length) (ys.length) (0) Tryz.underlying32 I3.h rfl rfl rfl rfl rfl (by omega) (by omega) (by omega) gno rfl (fun b15_4=>?_)
 refine Wn ?_
 refine V2 1 7 ?_ ?_
 refine Yc [] (F:=[_,_]) rfl rfl (fun w h=>cloneRail_fn (h.rs hr (fun _=>hI _)) (by omega) rfl) (fun v L' hp=>?_)
 obtain⟨A0,c0,rfl,rfl⟩:=hp
 refine Wn ?_
 refine V1 7 ?_
 refine OV.make (K:=intK .u64) (ys.length) (ys.length) (0) Tryz.underlying25 I37.h rfl rfl rfl rfl rfl (by omega) (by omega) (by omega) gno rfl (fun b15_7=>?_)
 refine Wn ?_
 refine Wt 8 rfl (Step.build rfl (Bd328_0_1_2 _ _ _ _ _ _ _ _ _)) ?_
 refine V1 9 ?_
 refine Yb #[_,_,_,_] rfl rfl (fun b15_9=>?_)
 refine Wn ?_
 refine W 10 ?_
 refine W 11 ?_
 refine Vd ?_
 refine J2 ?_
 refine K4 [4,2,1,1] rfl ?_
 have hE:newE ys=0:=(newE_chk hlong hj.2).trans (Decidable.not_not.1 hc)
 exact Rc rfl rfl rfl ⟨fun _=>⟨_,⟨_,_,_,_,_,_⟩,rfl,rfl⟩,fun h0=>absurd hE h0⟩
 refine OV.make (K:=intK .u64) (ys.length) (ys.length) (0) Tryz.underlying25 I37.h rfl rfl rfl rfl rfl (by omega) (by omega) (by omega) gno rfl (fun b15_7=>?_)
 refine Wn ?_
 refine V1 1 ?_
 refine Yc [] (F:=[_,_,_]) rfl rfl (fun w h=>cloneRail_fn (h.rs hr (fun _=>hI _)) (by omega) rfl) (fun v L' hp=>?_)
 obtain⟨A0,c0,rfl,rfl⟩:=hp
 refine Wn ?_
 refine Wt 8 rfl (Step.build rfl (Bd328_0_1_2 _ _ _ _ _ _ _ _ _)) ?_
 refine V1 9 ?_
 refine Yb #[_,_,_,_] rfl rfl (fun b15_9=>?_)
 refine Wn ?_
 refine W 10 ?_
 refine W 11 ?_
 refine Vd ?_
 refine J2 ?_
 refine K4 [4,3,1,1] rfl ?_
 have hE:newE ys=0:=(newE_chk hlong hj.2).trans (Decidable.not_not.1 hc)
 exact Rc rfl rfl rfl ⟨fun _=>⟨_,⟨_,_,_,_,_,_⟩,rfl,rfl⟩,fun h0=>absurd hE h0⟩
 refine OV.make (K:=intK .u64) (ys.length) (ys.length) (0) Tryz.underlying25 I37.h rfl rfl rfl rfl rfl (by omega) (by omega) (by omega) gno rfl (fun b15_7=>?_)
 refine Wn ?_
 refine V2 1 4 ?_ ?_
 refine Yc [] (F:=[_,_]) rfl rfl (fun w h=>cloneRail_fn (h.rs hr (fun _=>hI _)) (by omega) rfl) (fun v L' hp=>?_)
 obtain⟨A0,c0,rfl,rfl⟩:=hp
 refine Wn ?_
 refine V1 4 ?_
 refine OV.make (K:=intK .i64) (ys.length) (ys.length) (0) Tryz.underlying32 I3.h rfl rfl rfl rfl rfl (by omega) (by omega) (by omega) gno rfl (fun b15_4=>?_)
 refine Wn ?_
 refine Wt 8 rfl (Step.build rfl (Bd328_0_1_2 _ _ _ _ _ _ _ _ _)) ?_
 refine V1 9 ?_
 refine Yb #[_,_,_,_] rfl rfl (fun b15_9=>?_)
 refine Wn ?_
 refine W 10 ?_
 refine W 11 ?_
 refine Vd ?_
 refine J2 ?_
 refine K4 [4,2,2,1] rfl ?_
 have hE:newE ys=0:=(newE_chk hlong hj.2).trans (Decidable.not_not.1 hc)
 exact Rc rfl rfl rfl ⟨fun _=>⟨_,⟨_,_,_,_,_,_⟩,rfl,rfl⟩,fun h0=>absurd hE h0⟩
 refine OV.make (K:=intK .i64) (ys.length) (ys.length) (0) Tryz.underlying32 I3.h rfl rfl rfl rfl rfl (by omega) (by omega) (by omega) gno rfl (fun b15_4=>?_)
 refine Wn ?_
 refine V1 1 ?_
 refine Yc [] (F:=[_,_,_]) rfl rfl (fun w h=>cloneRail_fn (h.rs hr (fun _=>hI _)) (by omega) rfl) (fun v L' hp=>?_)
 obtain⟨A0,c0,rfl,rfl⟩:=hp
 refine Wn ?_
 refine Wt 8 rfl (Step.build rfl (Bd328_0_1_2 _ _ _ _ _ _ _ _ _)) ?_
 refine V1 9 ?_
 refine Yb #[_,_,_,_] rfl rfl (fun b15_9=>?_)
 refine Wn ?_
 refine W 10 ?_
 refine W 11 ?_
 refine Vd ?_
 refine J2 ?_
 refine K4 [4,3,2,1] rfl ?_
 have hE:newE ys=0:=(newE_chk hlong hj.2).trans (Decidable.not_not.1 hc)
 exact Rc rfl rfl rfl ⟨fun _=>⟨_,⟨_,_,_,_,_,_⟩,rfl,rfl⟩,fun h0=>absurd hE h0⟩
theorem newR_fn {A:Option Addr} {n c:Nat} {ys:List Rail} {w:World} (hr:RS w railK A ys) (hn:n=ys.length):Fx Tryz.prog 81 [.slice A n c] w [] no (fun v L=>(newRE ys=0→ ∃b a,v= .tuple #[.pointer (some ⟨b,0,none⟩),.int .i64 0]∧L=robj 302 b a (new0 ys))∧(newRE ys≠0→v= .tuple #[.pointer none,.int .i64 (newRE ys)]∧L=[])):=by
 subst hn
 refine Fb ?_
 intro I hro hI
 refine J11 ?_
 refine Jgt rfl rfl (fun hlong=>?_) (fun hlong=>?_)
 refine J11 ?_
 refine E0 ?_
 have hE:newRE ys=1:=newRE_long hlong
 exact Rc rfl rfl rfl ⟨fun h0=>absurd h0 (by rw[hE];decide),fun _=>⟨by rw[hE],rfl⟩⟩
 refine J12 ?_
 refine E0 ?_
 refine CV.loopI (α:=Nat) (fun j=>j≤ys.length∧ ∀i,i<j→ ¬badR ys.length (ys.getD i railK.d)) (fun j=>ys.length-j) (fun j=>[(0,.slice A ys.length c),(4,.int .i64 j)]) (fun _=>Hp I w []) 0 ⟨Nat.zero_le _,fun _ h=>by omega⟩ (sb rfl) (fun _ h=>h) ?_
 intro j hj
 refine J6 ?_
 refine Jlt rfl rfl (fun hlt2=>?_) (fun hlt2=>?_)
 refine J13 ?_
 refine Jr (Tc rfl (fun w h=>(h.rs hr (fun _=>hI _)).cell (by omega) rfl)) ?_
 refine Jlt rfl rfl (fun cc1=>?_) (fun cc1=>?_)
 refine J15 ?_
 refine J15 ?_
 refine J11 ?_
 refine E0 ?_
 have hE:newRE ys=1:=newRE_bad hlong (j:=j) (by omega) (by unfold badR;omega)
 exact Rc rfl rfl rfl ⟨fun h0=>absurd h0 (by rw[hE];decide),fun _=>⟨by rw[hE],rfl⟩⟩
 refine J5 ?_
 refine Jr (Tc rfl (fun w h=>(h.rs hr (fun _=>hI _)).cell (by omega) rfl)) ?_
 refine J2 ?_
 refine Jge rfl rfl (fun cc2=>?_) (fun cc2=>?_)
 refine J15 ?_
 refine J15 ?_
 refine J2 ?_
 refine E0 ?_
 have hE:newRE ys=1:=newRE_bad hlong (j:=j) (by omega) (by unfold badR;omega)
 exact Rc rfl rfl rfl ⟨fun h0=>absurd h0 (by rw[hE];decide),fun _=>⟨by rw[hE],rfl⟩⟩
 refine J6 ?_
 refine Jr (Tc rfl (fun w h=>(h.rs hr (fun _=>hI _)).cell (by omega) rfl)) ?_
 refine Jgt rfl rfl (fun cc3=>?_) (fun cc3=>?_)
 refine J15 ?_
 refine J9 ?_
 refine E0 ?_
 have hE:newRE ys=1:=newRE_bad hlong (j:=j) (by omega) (by unfold badR;omega)
 exact Rc rfl rfl rfl ⟨fun h0=>absurd h0 (by rw[hE];decide),fun _=>⟨by rw[hE],rfl⟩⟩
 refine J6 ?_
 refine Jr (Tc rfl (fun w h=>(h.rs hr (fun _=>hI _)).cell (by omega) rfl)) ?_
 refine Jgt rfl rfl (fun cc4=>?_) (fun cc4=>?_)
 refine J15 ?_
 refine J1 ?_
 refine E0 ?_
 have hE:newRE ys=1:=newRE_bad hlong (j:=j) (by omega) (by unfold badR;omega)
 exact Rc rfl rfl rfl ⟨fun h0=>absurd h0 (by rw[hE];decide),fun _=>⟨by rw[hE],rfl⟩⟩
 refine J13 ?_
 refine E0 ?_
 have hnb: ¬badR ys.length (ys.getD j railK.d):=by unfold badR;omega
 refine KV.loopI (j+1) ⟨by omega,fun i hi=>by by_cases e:i=j;(subst e;exact hnb);exact hj.2 i (by omega)⟩ (by omega) (sb rfl) (fun _ h=>h)
 obtain rfl:j=ys.length:=by omega
 refine J15 ?_
 refine E0 ?_
 refine CV.loopI (α:=Nat) (fun j=>j≤ys.length∧ ∀i,i<j→itM ys i ys.length<0) (fun j=>ys.length-j) (fun j=>[(0,.slice A ys.length c),(5,.int .i64 j)]) (fun _=>Hp I w []) 0 ⟨Nat.zero_le _,fun _ h=>by omega⟩ (sb rfl) (fun _ h=>h) ?_
 intro i hi
 refine J6 ?_
 refine Jlt rfl rfl (fun hlt3=>?_) (fun hlt3=>?_)
 refine J15 ?_
 refine J5 ?_
 refine E0 ?_
 refine CV.loopI (α:=Nat) (fun k=>k≤ys.length) (fun k=>ys.length-k) (fun k=>[(0,.slice A ys.length c),(5,.int .i64 i),(6,.int .i64 (itM ys i k)),(7,.int .i64 k)]) (fun _=>Hp I w []) 0 (Nat.zero_le _) (sb rfl) (fun _ h=>h) ?_
 intro k hk
 refine J6 ?_
 refine Jlt rfl rfl (fun hlk=>?_) (fun hlk=>?_)
 refine J2 ?_
 refine Jge rfl rfl (fun hat=>?_) (fun hat=>?_)
 refine J8 ?_
 obtain⟨m,hm2⟩:=Int.eq_ofNat_of_zero_le hat
 have hm3:=itM_lt (rails:=ys) (i:=i) (by omega) hj.2 k
 rw[hm2] at hm3
 rw[hm2]
 refine J5 ?_
 refine Jr (Tc rfl (fun w h=>(h.rs hr (fun _=>hI _)).cell (by omega) rfl)) ?_
 refine J10 ?_
 refine E0 ?_
 refine KV.loopI (k+1) (by omega) (by omega) ⟨rfl,rfl,by rw[itM_pos hm2];rfl,rfl,trivial⟩ (fun _ h=>h)
 have hfin:itM ys i ys.length=itM ys i k:=by have:=itM_stay (rails:=ys) (i:=i) (k:=k) (by omega) (ys.length-k);rw[show k+(ys.length-k)=ys.length from by omega] at this;exact this
 refine J12 ?_
 refine Jge rfl rfl (fun hc=>?_) (fun hc=>?_)
 refine J15 ?_
 refine E0 ?_
 have hE:newRE ys=18:=newRE_cyc hlong hj.2 (j:=i) (by omega) (by omega)
 exact Rc rfl rfl rfl ⟨fun h0=>absurd h0 (by rw[hE];decide),fun _=>⟨by rw[hE],rfl⟩⟩
 refine J12 ?_
 refine E0 ?_
 refine KV.loopI (i+1) ⟨by omega,fun e he=>by by_cases e2:e=i;(subst e2;omega);exact hi.2 e (by omega)⟩ (by omega) (sb rfl) (fun _ h=>h)
 have hfin:itM ys i ys.length=itM ys i k:=by rw[show k=ys.length from by omega]
 refine J15 ?_
 refine Jge rfl rfl (fun hc=>?_) (fun hc=>?_)
 refine J15 ?_
 refine E0 ?_
 have hE:newRE ys=18:=newRE_cyc hlong hj.2 (j:=i) (by omega) (by omega)
 exact Rc rfl rfl rfl ⟨fun h0=>absurd h0 (by rw[hE];decide),fun _=>⟨by rw[hE],rfl⟩⟩
 refine J12 ?_
 refine E0 ?_
 refine KV.loopI (i+1) ⟨by omega,fun e he=>by by_cases e2:e=i;(subst e2;omega);exact hi.2 e (by omega)⟩ (by omega) (sb rfl) (fun _ h=>h)
 obtain rfl:i=ys.length:=by omega
 refine J9 ?_
 refine An (Hp I w []) 13 ?_
 refine W 1 ?_
 refine W 3 ?_
 refine W 4 ?_
 refine W 6 ?_
 refine W 7 ?_
 refine V3 0 5 8 ?_ ?_ ?_
 refine OV.buildSlice (K:=railK) ([]) rfl (Bs24_0_) rfl rfl (by omega) gno rfl (fun b18_0=>?_)
 refine Wn ?_
 refine V3 2 5 8 ?_ ?_ ?_
 refine Ye 0 rfl rfl rfl rfl rfl (fun w h=>h.rs hr (fun _=>hI _)) (by simp only[List.length_nil];omega) (fun b18_2a b18_2c=>?_)
 refine Wn ?_
 refine V2 5 8 ?_ ?_
 refine OV.make (K:=intK .i64) (ys.length) (ys.length) (0) Tryz.underlying32 I3.h rfl rfl rfl rfl rfl (by omega) (by omega) (by omega) gno rfl (fun b18_5=>?_)
 refine Wn ?_
 refine V1 8 ?_
 refine OV.make (K:=intK .u64) (ys.length) (ys.length) (0) Tryz.underlying25 I37.h rfl rfl rfl rfl rfl (by omega) (by omega) (by omega) gno rfl (fun b18_8=>?_)
 refine Wn ?_
 refine Wt 9 rfl (Step.build rfl (Bd302_0_1_2 _ _ _ _ _ _ _ _ _)) ?_
 refine V1 10 ?_
 refine Yb #[_,_,_,_] rfl rfl (fun b18_10=>?_)
 refine Wn ?_
 refine W 11 ?_
 refine W 12 ?_
 refine Vd ?_
 refine J2 ?_
 refine K4 [3,0,0,0] rfl ?_
 have hE:newRE ys=0:=newRE_ok hlong hj.2 hi.2
 exact Rc rfl rfl rfl ⟨fun _=>⟨_,⟨_,_,_,_,_,_⟩,rfl,rfl⟩,fun h0=>absurd hE h0⟩
 refine OV.make (K:=intK .u64) (ys.length) (ys.length) (0) Tryz.underlying25 I37.h rfl rfl rfl rfl rfl (by omega) (by omega) (by omega) gno rfl (fun b18_8=>?_)
 refine Wn ?_
 refine V1 5 ?_
 refine OV.make (K:=intK .i64) (ys.length) (ys.length) (0) Tryz.underlying32 I3.h rfl rfl rfl rfl rfl (by omega) (by omega) (by omega) gno rfl (fun b18_5=>?_)
 refine Wn ?_
 refine Wt 9 rfl (Step.build rfl (Bd302_0_1_2 _ _ _ _ _ _ _ _ _)) ?_
 refine V1 10 ?_
 refine Yb #[_,_,_,_] rfl rfl (fun b18_10=>?_)
 refine Wn ?_
 refine W 11 ?_
 refine W 12 ?_
 refine Vd ?_
 refine J2 ?_
 refine K4 [3,0,1,0] rfl ?_
 have hE:newRE ys=0:=newRE_ok hlong hj.2 hi.2
 exact Rc rfl rfl rfl ⟨fun _=>⟨_,⟨_,_,_,_,_,_⟩,rfl,rfl⟩,fun h0=>absurd hE h0⟩
 refine OV.make (K:=intK .i64) (ys.length) (ys.length) (0) Tryz.underlying32 I3.h rfl rfl rfl rfl rfl (by omega) (by omega) (by omega) gno rfl (fun b18_5=>?_)
 refine Wn ?_
 refine V2 2 8 ?_ ?_
 refine Ye 0 rfl rfl rfl rfl rfl (fun w h=>h.rs hr (fun _=>hI _)) (by simp only[List.length_nil];omega) (fun b18_2a b18_2c=>?_)
 refine Wn ?_
 refine V1 8 ?_
 refine OV.make (K:=intK .u64) (ys.length) (ys.length) (0) Tryz.underlying25 I37.h rfl rfl rfl rfl rfl (by omega) (by omega) (by omega) gno rfl (fun b18_8=>?_)
 refine Wn ?_
 refine Wt 9 rfl (Step.build rfl (Bd302_0_1_2 _ _ _ _ _ _ _ _ _)) ?_
 refine V1 10 ?_
 refine Yb #[_,_,_,_] rfl rfl (fun b18_10=>?_)
 refine Wn ?_
 refine W 11 ?_
 refine W 12 ?_
 refine Vd ?_
 refine J2 ?_
 refine K4 [3,0,0,0] rfl ?_
 have hE:newRE ys=0:=newRE_ok hlong hj.2 hi.2
 exact Rc rfl rfl rfl ⟨fun _=>⟨_,⟨_,_,_,_,_,_⟩,rfl,rfl⟩,fun h0=>absurd hE h0⟩
 refine OV.make (K:=intK .u64) (ys.length) (ys.length) (0) Tryz.underlying25 I37.h rfl rfl rfl rfl rfl (by omega) (by omega) (by omega) gno rfl (fun b18_8=>?_)
 refine Wn ?_
 refine V1 2 ?_
 refine Ye 0 rfl rfl rfl rfl rfl (fun w h=>h.rs hr (fun _=>hI _)) (by simp only[List.length_nil];omega) (fun b18_2a b18_2c=>?_)
 refine Wn ?_
 refine Wt 9 rfl (Step.build rfl (Bd302_0_1_2 _ _ _ _ _ _ _ _ _)) ?_
 refine V1 10 ?_
 refine Yb #[_,_,_,_] rfl rfl (fun b18_10=>?_)
 refine Wn ?_
 refine W 11 ?_
 refine W 12 ?_
 refine Vd ?_
 refine J2 ?_
 refine K4 [3,0,0,0] rfl ?_
 have hE:newRE ys=0:=newRE_ok hlong hj.2 hi.2
 exact Rc rfl rfl rfl ⟨fun _=>⟨_,⟨_,_,_,_,_,_⟩,rfl,rfl⟩,fun h0=>absurd hE h0⟩
 refine OV.make (K:=intK .u64) (ys.length) (ys.length) (0) Tryz.underlying25 I37.h rfl rfl rfl rfl rfl (by omega) (by omega) (by omega) gno rfl (fun b18_8=>?_)
 refine Wn ?_
 refine V2 2 5 ?_ ?_
 refine Ye 0 rfl rfl rfl rfl rfl (fun w h=>h.rs hr (fun _=>hI _)) (by simp only[List.length_nil];omega) (fun b18_2a b18_2c=>?_)
 refine Wn ?_
 refine V1 5 ?_
 refine OV.make (K:=intK .i64) (ys.length) (ys.length) (0) Tryz.underlying32 I3.h rfl rfl rfl rfl rfl (by omega) (by omega) (by omega) gno rfl (fun b18_5=>?_)
 refine Wn ?_
 refine Wt 9 rfl (Step.build rfl (Bd302_0_1_2 _ _ _ _ _ _ _ _ _)) ?_
 refine V1 10 ?_
 refine Yb #[_,_,_,_] rfl rfl (fun b18_10=>?_)
 refine Wn ?_
 refine W 11 ?_
 refine W 12 ?_
 refine Vd ?_
 refine J2 ?_
 refine K4 [3,0,1,0] rfl ?_
 have hE:newRE ys=0:=newRE_ok hlong hj.2 hi.2
 exact Rc rfl rfl rfl ⟨fun _=>⟨_,⟨_,_,_,_,_,_⟩,rfl,rfl⟩,fun h0=>absurd hE h0⟩
 refine OV.make (K:=intK .i64) (ys.length) (ys.length) (0) Tryz.underlying32 I3.h rfl rfl rfl rfl rfl (by omega) (by omega) (by omega) gno rfl (fun b18_5=>?_)
 refine Wn ?_
 refine V1 2 ?_
 refine Ye 0 rfl rfl rfl rfl rfl (fun w h=>h.rs hr (fun _=>hI _)) (by simp only[List.length_nil];omega) (fun b18_2a b18_2c=>?_)
 refine Wn ?_
 refine Wt 9 rfl (Step.build rfl (Bd302_0_1_2 _ _ _ _ _ _ _ _ _)) ?_
 refine V1 10 ?_
 refine Yb #[_,_,_,_] rfl rfl (fun b18_10=>?_)
 refine Wn ?_
 refine W 11 ?_
 refine W 12 ?_
 refine Vd ?_
 refine J2 ?_
 refine K4 [3,0,1,0] rfl ?_
 have hE:newRE ys=0:=newRE_ok hlong hj.2 hi.2
 exact Rc rfl rfl rfl ⟨fun _=>⟨_,⟨_,_,_,_,_,_⟩,rfl,rfl⟩,fun h0=>absurd hE h0⟩
 refine OV.make (K:=intK .i64) (ys.length) (ys.length) (0) Tryz.underlying32 I3.h rfl rfl rfl rfl rfl (by omega) (by omega) (by omega) gno rfl (fun b18_5=>?_)
 refine Wn ?_
 refine V2 0 8 ?_ ?_
 refine OV.buildSlice (K:=railK) ([]) rfl (Bs24_0_) rfl rfl (by omega) gno rfl (fun b18_0=>?_)
 refine Wn ?_
 refine V2 2 8 ?_ ?_
 refine Ye 1 rfl rfl rfl rfl rfl (fun w h=>h.rs hr (fun _=>hI _)) (by simp only[List.length_nil];omega) (fun b18_2a b18_2c=>?_)
 refine Wn ?_
 refine V1 8 ?_
 refine OV.make (K:=intK .u64) (ys.length) (ys.length) (0) Tryz.underlying25 I37.h rfl rfl rfl rfl rfl (by omega) (by omega) (by omega) gno rfl (fun b18_8=>?_)
 refine Wn ?_
 refine Wt 9 rfl (Step.build rfl (Bd302_0_1_2 _ _ _ _ _ _ _ _ _)) ?_
 refine V1 10 ?_
 refine Yb #[_,_,_,_] rfl rfl (fun b18_10=>?_)
 refine Wn ?_
 refine W 11 ?_
 refine W 12 ?_
 refine Vd ?_
 refine J2 ?_
 refine K4 [3,1,0,0] rfl ?_
 have hE:newRE ys=0:=newRE_ok hlong hj.2 hi.2
 exact Rc rfl rfl rfl ⟨fun _=>⟨_,⟨_,_,_,_,_,_⟩,rfl,rfl⟩,fun h0=>absurd hE h0⟩
 refine OV.make (K:=intK .u64) (ys.length) (ys.length) (0) Tryz.underlying25 I37.h rfl rfl rfl rfl rfl (by omega) (by omega) (by omega) gno rfl (fun b18_8=>?_)
 refine Wn ?_
 refine V1 2 ?_
 refine Ye 1 rfl rfl rfl rfl rfl (fun w h=>h.rs hr (fun _=>hI _)) (by simp only[List.length_nil];omega) (fun b18_2a b18_2c=>?_)
 refine Wn ?_
 refine Wt 9 rfl (Step.build rfl (Bd302_0_1_2 _ _ _ _ _ _ _ _ _)) ?_
 refine V1 10 ?_
 refine Yb #[_,_,_,_] rfl rfl (fun b18_10=>?_)
 refine Wn ?_
 refine W 11 ?_
 refine W 12 ?_
 refine Vd ?_
 refine J2 ?_
 refine K4 [3,1,0,0] rfl ?_
 have hE:newRE ys=0:=newRE_ok hlong hj.2 hi.2
 exact Rc rfl rfl rfl ⟨fun _=>⟨_,⟨_,_,_,_,_,_⟩,rfl,rfl⟩,fun h0=>absurd hE h0⟩
 refine OV.make (K:=intK .u64) (ys.length) (ys.length) (0) Tryz.underlying25 I37.h rfl rfl rfl rfl rfl (by omega) (by omega) (by omega) gno rfl (fun b18_8=>?_)
 refine Wn ?_
 refine V1 0 ?_
 refine OV.buildSlice (K:=railK) ([]) rfl (Bs24_0_) rfl rfl (by omega) gno rfl (fun b18_0=>?_)
 refine Wn ?_
 refine V1 2 ?_
 refine Ye 2 rfl rfl rfl rfl rfl (fun w h=>h.rs hr (fun _=>hI _)) (by simp only[List.length_nil];omega) (fun b18_2a b18_2c=>?_)
 refine Wn ?_
 refine Wt 9 rfl (Step.build rfl (Bd302_0_1_2 _ _ _ _ _ _ _ _ _)) ?_
 refine V1 10 ?_
 refine Yb #[_,_,_,_] rfl rfl (fun b18_10=>?_)
 refine Wn ?_
 refine W 11 ?_
 refine W 12 ?_
 refine Vd ?_
 refine J2 ?_
 refine K4 [3,2,0,0] rfl ?_
 have hE:newRE ys=0:=newRE_ok hlong hj.2 hi.2
 exact Rc rfl rfl rfl ⟨fun _=>⟨_,⟨_,_,_,_,_,_⟩,rfl,rfl⟩,fun h0=>absurd hE h0⟩
 refine OV.make (K:=intK .u64) (ys.length) (ys.length) (0) Tryz.underlying25 I37.h rfl rfl rfl rfl rfl (by omega) (by omega) (by omega) gno rfl (fun b18_8=>?_)
 refine Wn ?_
 refine V2 0 5 ?_ ?_
 refine OV.buildSlice (K:=railK) ([]) rfl (Bs24_0_) rfl rfl (by omega) gno rfl (fun b18_0=>?_)
 refine Wn ?_
 refine V2 2 5 ?_ ?_
 refine Ye 1 rfl rfl rfl rfl rfl (fun w h=>h.rs hr (fun _=>hI _)) (by simp only[List.length_nil];omega) (fun b18_2a b18_2c=>?_)
 refine Wn ?_
 refine V1 5 ?_
 refine OV.make (K:=intK .i64) (ys.length) (ys.length) (0) Tryz.underlying32 I3.h rfl rfl rfl rfl rfl (by omega) (by omega) (by omega) gno rfl (fun b18_5=>?_)
 refine Wn ?_
 refine Wt 9 rfl (Step.build rfl (Bd302_0_1_2 _ _ _ _ _ _ _ _ _)) ?_
 refine V1 10 ?_
 refine Yb #[_,_,_,_] rfl rfl (fun b18_10=>?_)
 refine Wn ?_
 refine W 11 ?_
 refine W 12 ?_
 refine Vd ?_
 refine J2 ?_
 refine K4 [3,1,1,0] rfl ?_
 have hE:newRE ys=0:=newRE_ok hlong hj.2 hi.2
 exact Rc rfl rfl rfl ⟨fun _=>⟨_,⟨_,_,_,_,_,_⟩,rfl,rfl⟩,fun h0=>absurd hE h0⟩
 refine OV.make (K:=intK .i64) (ys.length) (ys.length) (0) Tryz.underlying32 I3.h rfl rfl rfl rfl rfl (by omega) (by omega) (by omega) gno rfl (fun b18_5=>?_)
 refine Wn ?_
 refine V1 2 ?_
 refine Ye 1 rfl rfl rfl rfl rfl (fun w h=>h.rs hr (fun _=>hI _)) (by simp only[List.length_nil];omega) (fun b18_2a b18_2c=>?_)
 refine Wn ?_
 refine Wt 9 rfl (Step.build rfl (Bd302_0_1_2 _ _ _ _ _ _ _ _ _)) ?_
 refine V1 10 ?_
 refine Yb #[_,_,_,_] rfl rfl (fun b18_10=>?_)
 refine Wn ?_
 refine W 11 ?_
 refine W 12 ?_
 refine Vd ?_
 refine J2 ?_
 refine K4 [3,1,1,0] rfl ?_
 have hE:newRE ys=0:=newRE_ok hlong hj.2 hi.2
 exact Rc rfl rfl rfl ⟨fun _=>⟨_,⟨_,_,_,_,_,_⟩,rfl,rfl⟩,fun h0=>absurd hE h0⟩
 refine OV.make (K:=intK .i64) (ys.length) (ys.length) (0) Tryz.underlying32 I3.h rfl rfl rfl rfl rfl (by omega) (by omega) (by omega) gno rfl (fun b18_5=>?_)
 refine Wn ?_
 refine V1 0 ?_
 refine OV.buildSlice (K:=railK) ([]) rfl (Bs24_0_) rfl rfl (by omega) gno rfl (fun b18_0=>?_)
 refine Wn ?_
 refine V1 2 ?_
 refine Ye 2 rfl rfl rfl rfl rfl (fun w h=>h.rs hr (fun _=>hI _)) (by simp only[List.length_nil];omega) (fun b18_2a b18_2c=>?_)
 refine Wn ?_
 refine Wt 9 rfl (Step.build rfl (Bd302_0_1_2 _ _ _ _ _ _ _ _ _)) ?_
 refine V1 10 ?_
 refine Yb #[_,_,_,_] rfl rfl (fun b18_10=>?_)
 refine Wn ?_
 refine W 11 ?_
 refine W 12 ?_
 refine Vd ?_
 refine J2 ?_
 refine K4 [3,2,1,0] rfl ?_
 have hE:newRE ys=0:=newRE_ok hlong hj.2 hi.2
 exact Rc rfl rfl rfl ⟨fun _=>⟨_,⟨_,_,_,_,_,_⟩,rfl,rfl⟩,fun h0=>absurd hE h0⟩
end Go.Proofs.YtkofjhglgoojiaaGreatDoor.Rl
