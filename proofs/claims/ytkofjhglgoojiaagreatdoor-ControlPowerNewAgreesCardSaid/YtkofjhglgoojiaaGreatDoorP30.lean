/-
  Joined.
-/
import Derived.Test.YtkofjhglgoojiaaGreatDoorP29
set_option linter.unusedSimpArgs false
set_option linter.unusedVariables false
namespace Go.Proofs.YtkofjhglgoojiaaGreatDoor.Pw
set_option maxRecDepth 100000
set_option maxHeartbeats 20000000
open Go.Tk Go.Sv Go.Rails Go.Dg Go.Pw
attribute [local irreducible] KV SV OV Step Code.wp wpList Exit.then Exit.inBlock Blk OS Big Bun
theorem ref28New_fn {A:Option Addr} {n c:Nat} {ids:List IDv} {w:World} (hr:RS w idK A ids) (hn:n=ids.length) (hl:ids.length≤1000000) (hsu: ∀i,i<ids.length→RS w (intK .i64) (ids.getD i idK.d).sup.A (ids.getD i idK.d).sup.ys):Fx Tryz.prog 40 [.slice A n c] w [] no (fun v L=>(newI ids=0→ ∃t:RM28,v= .tuple #[.pointer (some ⟨t.b,0,none⟩),.int .i64 0]∧(t.A=A∧t.n=ids.length∧t.c=c∧t.lk=lkI ids ids.length∧t.on=List.replicate ids.length false∧t.us=List.replicate ids.length 0∧t.si=List.replicate ids.length 0∧t.clk=0)∧L=rmL t)∧(newI ids≠0→v= .tuple #[.pointer none,.int .i64 (newI ids)]∧L=[])):=by
 subst hn
 refine Fb ?_
 intro I hro hI
 refine J15 ?_
 refine J2 ?_
 refine Jgt rfl rfl (fun cc1=>?_) (fun cc1=>?_)
 refine J11 ?_
 refine E0 ?_
 have hE:newI ids=1:=newI_far (by omega)
 exact Rc rfl rfl rfl ⟨fun h0=>absurd (hE.symm.trans h0) (by first|decide|assumption),fun _=>⟨by rw[hE],rfl⟩⟩
 refine J5 ?_
 refine CV.join4 (fun(b:Nat) (oA_:Option Addr) (uA:Option Addr) (sA:Option Addr)=>[(0,.slice A ids.length c),(4,.int .i64 ids.length),(5,.pointer (some ⟨b,0,none⟩))]) (fun(b:Nat) (oA_:Option Addr) (uA:Option Addr) (sA:Option Addr)=>Hp I w [Blk b (.cells #[.slice A ids.length c,.slice none 0 0,.slice oA_ ids.length ids.length,.slice uA ids.length ids.length,.slice sA ids.length ids.length,.int .u64 0] 238 (0,0)),OS 4 bolK oA_ ids.length (List.replicate ids.length false),OS 3 (intK .i64) uA ids.length (List.replicate ids.length 0),OS 37 (intK .u64) sA ids.length (List.replicate ids.length 0)]) ?_ ?_
 refine An (Hp I w []) 10 ?_
 refine W 0 ?_
 refine W 1 ?_
 refine W 3 ?_
 refine W 5 ?_
 refine V3 2 4 6 ?_ ?_ ?_
 refine Ym (K:=bolK) (ids.length) (ids.length) (false) rfl rfl rfl rfl (fun oA_=>?_)
 refine Wn ?_
 refine V2 4 6 ?_ ?_
 refine OV.make (K:=intK .i64) (ids.length) (ids.length) (0) Tryz.underlying32 I3.h rfl rfl rfl rfl rfl (by omega) (by omega) (by omega) gno rfl (fun uA=>?_)
 refine Wn ?_
 refine V1 6 ?_
 refine OV.make (K:=intK .u64) (ids.length) (ids.length) (0) Tryz.underlying25 I37.h rfl rfl rfl rfl rfl (by omega) (by omega) (by omega) gno rfl (fun sA=>?_)
 refine Wn ?_
 refine Wt 7 rfl (Step.build rfl (Bd238_0_2_3_4 _ _ _ _ _ _ _ _ _ _ _ _)) ?_
 refine V1 8 ?_
 refine Yb #[_,_,_,_,_,_] rfl rfl (fun b=>?_)
 refine Wn ?_
 refine W 9 ?_
 refine Vd ?_
 refine J1 ?_
 refine K4 [3,0,0,0] rfl ?_
 exact KV.join4 (b) (oA_) (uA) (sA) (sb rfl) (fun _ h=>h)
 refine OV.make (K:=intK .u64) (ids.length) (ids.length) (0) Tryz.underlying25 I37.h rfl rfl rfl rfl rfl (by omega) (by omega) (by omega) gno rfl (fun sA=>?_)
 refine Wn ?_
 refine V1 4 ?_
 refine OV.make (K:=intK .i64) (ids.length) (ids.length) (0) Tryz.underlying32 I3.h rfl rfl rfl rfl rfl (by omega) (by omega) (by omega) gno rfl (fun uA=>?_)
 refine Wn ?_
 refine Wt 7 rfl (Step.build rfl (Bd238_0_2_3_4 _ _ _ _ _ _ _ _ _ _ _ _)) ?_
 refine V1 8 ?_
 refine Yb #[_,_,_,_,_,_] rfl rfl (fun b=>?_)
 refine Wn ?_
 refine W 9 ?_
 refine Vd ?_
 refine J1 ?_
 refine K4 [3,0,1,0] rfl ?_
 exact KV.join4 (b) (oA_) (uA) (sA) (sb rfl) (fun _ h=>h)
 refine OV.make (K:=intK .i64) (ids.length) (ids.length) (0) Tryz.underlying32 I3.h rfl rfl rfl rfl rfl (by omega) (by omega) (by omega) gno rfl (fun uA=>?_)
 refine Wn ?_
 refine V2 2 6 ?_ ?_
 refine Ym (K:=bolK) (ids.length) (ids.length) (false) rfl rfl rfl rfl (fun oA_=>?_)
 refine Wn ?_
 refine V1 6 ?_
 refine OV.make (K:=intK .u64) (ids.length) (ids.length) (0) Tryz.underlying25 I37.h rfl rfl rfl rfl rfl (by omega) (by omega) (by omega) gno rfl (fun sA=>?_)
 refine Wn ?_
 refine Wt 7 rfl (Step.build rfl (Bd238_0_2_3_4 _ _ _ _ _ _ _ _ _ _ _ _)) ?_
 refine V1 8 ?_
 refine Yb #[_,_,_,_,_,_] rfl rfl (fun b=>?_)
 refine Wn ?_
 refine W 9 ?_
 refine Vd ?_
 refine J1 ?_
 refine K4 [3,1,0,0] rfl ?_
 exact KV.join4 (b) (oA_) (uA) (sA) (sb rfl) (fun _ h=>h)
 refine OV.make (K:=intK .u64) (ids.length) (ids.length) (0) Tryz.underlying25 I37.h rfl rfl rfl rfl rfl (by omega) (by omega) (by omega) gno rfl (fun sA=>?_)
 refine Wn ?_
 refine V1 2 ?_
 refine Ym (K:=bolK) (ids.length) (ids.length) (false) rfl rfl rfl rfl (fun oA_=>?_)
 refine Wn ?_
 refine Wt 7 rfl (Step.build rfl (Bd238_0_2_3_4 _ _ _ _ _ _ _ _ _ _ _ _)) ?_
 refine V1 8 ?_
 refine Yb #[_,_,_,_,_,_] rfl rfl (fun b=>?_)
 refine Wn ?_
 refine W 9 ?_
 refine Vd ?_
 refine J1 ?_
 refine K4 [3,2,0,0] rfl ?_
 exact KV.join4 (b) (oA_) (uA) (sA) (sb rfl) (fun _ h=>h)
 refine OV.make (K:=intK .u64) (ids.length) (ids.length) (0) Tryz.underlying25 I37.h rfl rfl rfl rfl rfl (by omega) (by omega) (by omega) gno rfl (fun sA=>?_)
 refine Wn ?_
 refine V2 2 4 ?_ ?_
 refine Ym (K:=bolK) (ids.length) (ids.length) (false) rfl rfl rfl rfl (fun oA_=>?_)
 refine Wn ?_
 refine V1 4 ?_
 refine OV.make (K:=intK .i64) (ids.length) (ids.length) (0) Tryz.underlying32 I3.h rfl rfl rfl rfl rfl (by omega) (by omega) (by omega) gno rfl (fun uA=>?_)
 refine Wn ?_
 refine Wt 7 rfl (Step.build rfl (Bd238_0_2_3_4 _ _ _ _ _ _ _ _ _ _ _ _)) ?_
 refine V1 8 ?_
 refine Yb #[_,_,_,_,_,_] rfl rfl (fun b=>?_)
 refine Wn ?_
 refine W 9 ?_
 refine Vd ?_
 refine J1 ?_
 refine K4 [3,1,1,0] rfl ?_
 exact KV.join4 (b) (oA_) (uA) (sA) (sb rfl) (fun _ h=>h)
 refine OV.make (K:=intK .i64) (ids.length) (ids.length) (0) Tryz.underlying32 I3.h rfl rfl rfl rfl rfl (by omega) (by omega) (by omega) gno rfl (fun uA=>?_)
 refine Wn ?_
 refine V1 2 ?_
 refine Ym (K:=bolK) (ids.length) (ids.length) (false) rfl rfl rfl rfl (fun oA_=>?_)
 refine Wn ?_
 refine Wt 7 rfl (Step.build rfl (Bd238_0_2_3_4 _ _ _ _ _ _ _ _ _ _ _ _)) ?_
 refine V1 8 ?_
 refine Yb #[_,_,_,_,_,_] rfl rfl (fun b=>?_)
 refine Wn ?_
 refine W 9 ?_
 refine Vd ?_
 refine J1 ?_
 refine K4 [3,2,1,0] rfl ?_
 exact KV.join4 (b) (oA_) (uA) (sA) (sb rfl) (fun _ h=>h)
 intro b oA_ uA sA
 refine J2 ?_
 refine KV.heap (fun w h=>h.nilOS (e:=138) (K:=linkK)) ?_
 refine J5 ?_
 refine E5 ?_
 refine CV.loop2 (fun(i:Nat) (z:LG)=>i≤ids.length∧ ∀j,j<i→ ¬badI ids.length (ids.getD j idK.d)) (fun(i:Nat) (z:LG)=>ids.length-i) (fun(i:Nat) (z:LG)=>[(0,.slice A ids.length c),(4,.int .i64 ids.length),(5,.pointer (some ⟨b,0,none⟩)),(6,.int .i64 i)]) (fun(i:Nat) (z:LG)=>Hp I w [Blk b (.cells #[.slice A ids.length c,.slice z.A (lkI ids i).length z.c,.slice oA_ ids.length ids.length,.slice uA ids.length ids.length,.slice sA ids.length ids.length,.int .u64 0] 238 (0,0)),OS 4 bolK oA_ ids.length (List.replicate ids.length false),OS 3 (intK .i64) uA ids.length (List.replicate ids.length 0),OS 37 (intK .u64) sA ids.length (List.replicate ids.length 0),OS 138 linkK z.A z.c (lkI ids i)]) (0) (⟨none,0⟩) ⟨Nat.zero_le _,fun _ h=>by omega⟩ (sb rfl) (fun _ h=>h) ?_
 intro i z hinv
 have hll:=lkI_len (ids:=ids) (m:=i) (fun j hj=>by have:=hinv.2 j hj;unfold badI at this;omega)
 refine J5 ?_
 refine Jlt rfl rfl (fun cc2=>?_) (fun cc2=>?_)
 refine J13 ?_
 refine RV.op (Ya (fun b8_4=>?_))
 refine Zw 5 [_,_,_] #[_,_,_] ?_
 refine J7 ?_
 refine Jlt rfl rfl (fun cc3=>?_) (fun cc3=>?_)
 refine J15 ?_
 refine J15 ?_
 refine J3 ?_
 refine E0 ?_
 have hE:newI ids=1:=newI_bad (i:=i) (by omega) (by unfold badI;omega)
 exact Rc rfl rfl rfl ⟨fun h0=>absurd (hE.symm.trans h0) (by first|decide|assumption),fun _=>⟨by rw[hE],rfl⟩⟩
 refine J4 ?_
 refine Jge rfl rfl (fun cc4=>?_) (fun cc4=>?_)
 refine J15 ?_
 refine J13 ?_
 refine E0 ?_
 have hE:newI ids=1:=newI_bad (i:=i) (by omega) (by unfold badI;omega)
 exact Rc rfl rfl rfl ⟨fun h0=>absurd (hE.symm.trans h0) (by first|decide|assumption),fun _=>⟨by rw[hE],rfl⟩⟩
 refine J4 ?_
 refine Jgt rfl rfl (fun cc5=>?_) (fun cc5=>?_)
 refine J15 ?_
 refine J8 ?_
 refine E0 ?_
 have hE:newI ids=1:=newI_bad (i:=i) (by omega) (by unfold badI;omega)
 exact Rc rfl rfl rfl ⟨fun h0=>absurd (hE.symm.trans h0) (by first|decide|assumption),fun _=>⟨by rw[hE],rfl⟩⟩
 refine J5 ?_
 refine Jgt rfl rfl (fun cc6=>?_) (fun cc6=>?_)
 refine J15 ?_
 refine J2 ?_
 refine E0 ?_
 have hE:newI ids=1:=newI_bad (i:=i) (by omega) (by unfold badI;omega)
 exact Rc rfl rfl rfl ⟨fun h0=>absurd (hE.symm.trans h0) (by first|decide|assumption),fun _=>⟨by rw[hE],rfl⟩⟩
 refine J6 ?_
 refine CV.join (fun(x:LG)=>[(0,.slice A ids.length c),(4,.int .i64 ids.length),(5,.pointer (some ⟨b,0,none⟩)),(6,.int .i64 i),(7,.pointer (some ⟨b8_4,0,none⟩))]) (fun(x:LG)=>Hp I w [Blk b (.cells #[.slice A ids.length c,.slice x.A (lkI ids i++lk1 i (ids.getD i idK.d) 0).length x.c,.slice oA_ ids.length ids.length,.slice uA ids.length ids.length,.slice sA ids.length ids.length,.int .u64 0] 238 (0,0)),OS 4 bolK oA_ ids.length (List.replicate ids.length false),OS 3 (intK .i64) uA ids.length (List.replicate ids.length 0),OS 37 (intK .u64) sA ids.length (List.replicate ids.length 0),OS 138 linkK x.A x.c (lkI ids i++lk1 i (ids.getD i idK.d) 0),Blk b8_4 (.cells #[.int .i64 (ids.getD i idK.d).par,.slice (ids.getD i idK.d).sup.A (ids.getD i idK.d).sup.ys.length (ids.getD i idK.d).sup.c,.int .u64 (ids.getD i idK.d).dly] 39 (0,0))]) ?_ ?_
 refine J4 ?_
 refine Jge rfl rfl (fun hp=>?_) (fun hp=>?_)
 have hlk:lkI ids i++[⟨(i:Int),(ids.getD i idK.d).par⟩]=lkI ids i++lk1 i (ids.getD i idK.d) 0:=by rw[lk1_pos hp]
 refine J3 ?_
 refine An (Hp I w [Blk b8_4 (.cells #[.int .i64 (ids.getD i idK.d).par,.slice (ids.getD i idK.d).sup.A (ids.getD i idK.d).sup.ys.length (ids.getD i idK.d).sup.c,.int .u64 (ids.getD i idK.d).dly] 39 (0,0))]) 14 ?_
 refine W 0 ?_
 refine W 1 ?_
 refine W 2 ?_
 refine W 3 ?_
 refine W 5 ?_
 refine W 6 ?_
 refine W 7 ?_
 refine Wt 8 rfl (Step.build rfl (Bd138_0_1 _ _)) ?_
 refine V2 4 9 ?_ ?_
 refine OV.step gno (Tl 0 rfl rfl rfl) rfl ?_
 refine Wn ?_
 refine V1 9 ?_
 refine OV.buildSlice (K:=linkK) ([⟨_,_⟩]) rfl (Bs128_1_0 _ _) rfl rfl (by omega) gno rfl (fun b12_9=>?_)
 refine Wn ?_
 refine V1 10 ?_
 refine Ye 4 rfl rfl rfl rfl rfl (fun w h=>h.os 6 rfl) (by simp only[List.length_cons,List.length_nil];omega) (fun A3 c3=>?_)
 refine Wn ?_
 refine W 11 ?_
 refine W 12 ?_
 refine V1 13 ?_
 refine Yw 0 [_] #[_,_,_,_,_,_] rfl rfl rfl rfl rfl ?_
 refine Wn ?_
 refine Vd ?_
 refine J1 ?_
 refine E6 ?_
 exact KV.join (⟨A3,c3⟩) (sb rfl) (fun _ h=>by rw[←hlk];exact h)
 refine OV.buildSlice (K:=linkK) ([⟨_,_⟩]) rfl (Bs128_1_0 _ _) rfl rfl (by omega) gno rfl (fun b12_9=>?_)
 refine Wn ?_
 refine V1 4 ?_
 refine OV.step gno (Tl 0 rfl rfl rfl) rfl ?_
 refine Wn ?_
 refine V1 10 ?_
 refine Ye 4 rfl rfl rfl rfl rfl (fun w h=>h.os 6 rfl) (by simp only[List.length_cons,List.length_nil];omega) (fun A3 c3=>?_)
 refine Wn ?_
 refine W 11 ?_
 refine W 12 ?_
 refine V1 13 ?_
 refine Yw 0 [_] #[_,_,_,_,_,_] rfl rfl rfl rfl rfl ?_
 refine Wn ?_
 refine Vd ?_
 refine J1 ?_
 refine E6 ?_
 exact KV.join (⟨A3,c3⟩) (sb rfl) (fun _ h=>by rw[←hlk];exact h)
 have hlk:lkI ids i=lkI ids i++lk1 i (ids.getD i idK.d) 0:=by rw[lk1_neg hp,List.append_nil]
 refine J5 ?_
 refine E6 ?_
 exact KV.join (⟨z.A,z.c⟩) (sb rfl) (fun _ h=>by rw[←hlk];exact h)
 intro x
 refine J6 ?_
 refine E6 ?_
 refine CV.loop2 (fun(k:Nat) (y:LG)=>k≤(ids.getD i idK.d).sup.ys.length) (fun(k:Nat) (y:LG)=>(ids.getD i idK.d).sup.ys.length-k) (fun(k:Nat) (y:LG)=>[(0,.slice A ids.length c),(4,.int .i64 ids.length),(5,.pointer (some ⟨b,0,none⟩)),(6,.int .i64 i),(7,.pointer (some ⟨b8_4,0,none⟩)),(8,.int .i64 k)]) (fun(k:Nat) (y:LG)=>Hp I w [Blk b (.cells #[.slice A ids.length c,.slice y.A (lkI ids i++lk1 i (ids.getD i idK.d) k).length y.c,.slice oA_ ids.length ids.length,.slice uA ids.length ids.length,.slice sA ids.length ids.length,.int .u64 0] 238 (0,0)),OS 4 bolK oA_ ids.length (List.replicate ids.length false),OS 3 (intK .i64) uA ids.length (List.replicate ids.length 0),OS 37 (intK .u64) sA ids.length (List.replicate ids.length 0),OS 138 linkK y.A y.c (lkI ids i++lk1 i (ids.getD i idK.d) k),Blk b8_4 (.cells #[.int .i64 (ids.getD i idK.d).par,.slice (ids.getD i idK.d).sup.A (ids.getD i idK.d).sup.ys.length (ids.getD i idK.d).sup.c,.int .u64 (ids.getD i idK.d).dly] 39 (0,0))]) (0) (x) (Nat.zero_le _) (sb rfl) (fun _ h=>h) ?_
 intro k y hinv2
 have hnb: ¬badI ids.length (ids.getD i idK.d):=by unfold badI;omega
 refine J7 ?_
 refine Jlt rfl rfl (fun cc7=>?_) (fun cc7=>?_)
 refine J13 ?_
 refine Jr (Ti (fun w h=>(h.rs (hsu i (by omega)) (fun _=>hI _))) rfl rfl (rfl) _ rfl (by omega)) ?_
 refine Jr (Tc rfl (fun w h=>(h.rs (hsu i (by omega)) (fun _=>hI _)).cell0 (by omega) rfl)) ?_
 refine Jlt rfl rfl (fun cc8=>?_) (fun cc8=>?_)
 refine J15 ?_
 refine J14 ?_
 refine E0 ?_
 have hE:newI ids=1:=newI_sup (i:=i) (k:=k) (by omega) (by omega) (by omega)
 exact Rc rfl rfl rfl ⟨fun h0=>absurd (hE.symm.trans h0) (by first|decide|assumption),fun _=>⟨by rw[hE],rfl⟩⟩
 refine J4 ?_
 refine Jr (Ti (fun w h=>(h.rs (hsu i (by omega)) (fun _=>hI _))) rfl rfl (rfl) _ rfl (by omega)) ?_
 refine Jr (Tc rfl (fun w h=>(h.rs (hsu i (by omega)) (fun _=>hI _)).cell0 (by omega) rfl)) ?_
 refine J1 ?_
 refine Jge rfl rfl (fun cc9=>?_) (fun cc9=>?_)
 refine J15 ?_
 refine J6 ?_
 refine E0 ?_
 have hE:newI ids=1:=newI_sup (i:=i) (k:=k) (by omega) (by omega) (by omega)
 exact Rc rfl rfl rfl ⟨fun h0=>absurd (hE.symm.trans h0) (by first|decide|assumption),fun _=>⟨by rw[hE],rfl⟩⟩
 refine J6 ?_
 refine An (Hp I w [Blk b8_4 (.cells #[.int .i64 (ids.getD i idK.d).par,.slice (ids.getD i idK.d).sup.A (ids.getD i idK.d).sup.ys.length (ids.getD i idK.d).sup.c,.int .u64 (ids.getD i idK.d).dly] 39 (0,0))]) 17 ?_
 refine W 0 ?_
 refine W 1 ?_
 refine W 2 ?_
 refine W 3 ?_
 refine W 5 ?_
 refine W 6 ?_
 refine W 7 ?_
 refine W 8 ?_
 refine Wt 9 rfl (Ti (fun w h=>(h.rs (hsu i (by omega)) (fun _=>hI _))) rfl rfl (rfl) _ rfl (by omega)) ?_
 refine Wt 10 rfl (Tc rfl (fun w h=>(h.rs (hsu i (by omega)) (fun _=>hI _)).cell0 (by omega) rfl)) ?_
 refine Wt 11 rfl (Step.build rfl (Bd138_0_1 _ _)) ?_
 refine V2 4 12 ?_ ?_
 refine OV.step gno (Tl 0 rfl rfl rfl) rfl ?_
 refine Wn ?_
 refine V1 12 ?_
 refine OV.buildSlice (K:=linkK) ([⟨_,_⟩]) rfl (Bs128_1_0 _ _) rfl rfl (by omega) gno rfl (fun b18_12=>?_)
 refine Wn ?_
 refine V1 13 ?_
 refine Ye 4 rfl rfl rfl rfl rfl (fun w h=>h.os 6 rfl) (by have:=lk1_len i (ids.getD i idK.d) k;simp only[List.length_append,List.length_cons,List.length_nil];omega) (fun A4 c4=>?_)
 refine Wn ?_
 refine W 14 ?_
 refine W 15 ?_
 refine V1 16 ?_
 refine Yw 0 [_] #[_,_,_,_,_,_] rfl rfl rfl rfl rfl ?_
 refine Wn ?_
 refine Vd ?_
 refine J8 ?_
 refine E6 ?_
 exact KV.loop2 (x:=k) (y:=y) (k+1) (⟨A4,c4⟩) (by omega) (by omega) (sb rfl) (fun _ h=>by rw[lk1_snoc (by omega),←List.append_assoc];exact h)
 refine OV.buildSlice (K:=linkK) ([⟨_,_⟩]) rfl (Bs128_1_0 _ _) rfl rfl (by omega) gno rfl (fun b18_12=>?_)
 refine Wn ?_
 refine V1 4 ?_
 refine OV.step gno (Tl 0 rfl rfl rfl) rfl ?_
 refine Wn ?_
 refine V1 13 ?_
 refine Ye 4 rfl rfl rfl rfl rfl (fun w h=>h.os 6 rfl) (by have:=lk1_len i (ids.getD i idK.d) k;simp only[List.length_append,List.length_cons,List.length_nil];omega) (fun A4 c4=>?_)
 refine Wn ?_
 refine W 14 ?_
 refine W 15 ?_
 refine V1 16 ?_
 refine Yw 0 [_] #[_,_,_,_,_,_] rfl rfl rfl rfl rfl ?_
 refine Wn ?_
 refine Vd ?_
 refine J8 ?_
 refine E6 ?_
 exact KV.loop2 (x:=k) (y:=y) (k+1) (⟨A4,c4⟩) (by omega) (by omega) (sb rfl) (fun _ h=>by rw[lk1_snoc (by omega),←List.append_assoc];exact h)
 refine J15 ?_
 refine E5 ?_
 obtain rfl:k=(ids.getD i idK.d).sup.ys.length:=by omega
 exact KV.loop2 (x:=i) (y:=z) (i+1) (y) ⟨by omega,fun j hj=>by by_cases e:j=i;(subst e;exact hnb);exact hinv.2 j (by omega)⟩ (by omega) (sb rfl) (fun _ h=>by rw[lkI];exact h)
 refine J10 ?_
 obtain rfl:i=ids.length:=by omega
 refine J3 ?_
 refine Jp rfl ?_
 refine J2 ?_
 refine RV.op (Yc [] (F:=[_,_,_,_,_]) rfl rfl (fun w h=>rcheck_fn ids.length (h.os 4 rfl) (by omega)) (fun v L' hp=>?_))
 obtain⟨rfl,rfl⟩:=hp
 refine J6 ?_
 refine Jne rfl rfl (fun hc=>?_) (fun hc=>?_)
 refine J12 ?_
 refine E0 ?_
 have hE:newI ids=chkM ids.length (lkI ids ids.length):=newI_chk (by omega) hinv.2
 exact Rc rfl rfl rfl ⟨fun h0=>absurd (hE.symm.trans h0) (by first|decide|assumption),fun _=>⟨by rw[hE],rfl⟩⟩
 refine J13 ?_
 refine E5 ?_
 have hE:newI ids=0:=(newI_chk (by omega) hinv.2).trans (Decidable.not_not.1 hc)
 exact Rc rfl rfl rfl ⟨fun _=>⟨⟨b,A,ids.length,c,z.A,z.c,lkI ids ids.length,oA_,ids.length,List.replicate ids.length false,uA,ids.length,List.replicate ids.length 0,sA,ids.length,List.replicate ids.length 0,0⟩,rfl,⟨rfl,rfl,rfl,rfl,rfl,rfl,rfl,rfl⟩,by simp only[rmL,List.length_replicate]⟩,fun h0=>absurd hE h0⟩
end Go.Proofs.YtkofjhglgoojiaaGreatDoor.Pw
