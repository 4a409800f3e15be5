/-
  Joined.
-/
import Derived.Test.YtkofjhglgoojiaaGreatDoorP30
set_option linter.unusedSimpArgs false
set_option linter.unusedVariables false
namespace Go.Proofs.YtkofjhglgoojiaaGreatDoor.Pw
set_option maxRecDepth 100000
set_option maxHeartbeats 20000000
open Go.Tk Go.Sv Go.Rails Go.Dg Go.Pw
attribute [local irreducible] KV SV OV Step Code.wp wpList Exit.then Exit.inBlock Blk OS Big Bun
theorem pmNew_fn {A:Option Addr} {n c:Nat} {ids:List IDv} {w:World} (hr:RS w idK A ids) (hn:n=ids.length) (hl:ids.length≤1000000) (hsu: ∀i,i<ids.length→RS w (intK .i64) (ids.getD i idK.d).sup.A (ids.getD i idK.d).sup.ys):Fx Tryz.prog 61 [.slice A n c] w [] no (fun v L=>(newI ids=0→ ∃t:MG,v= .tuple #[.pointer (some ⟨t.b,0,none⟩),.int .i64 0]∧t.fresh ids∧L=mgL t)∧(newI ids≠0→v= .tuple #[.pointer none,.int .i64 (newI ids)]∧L=[])):=by
 subst hn
 refine Fb ?_
 intro I hro hI
 refine J11 ?_
 refine Jgt rfl rfl (fun hfar=>?_) (fun hfar=>?_)
 refine J11 ?_
 refine E0 ?_
 have hE:newI ids=1:=newI_far hfar
 exact Rc rfl rfl rfl ⟨fun h0=>absurd (hE.symm.trans h0) (by first|decide|assumption),fun _=>⟨by rw[hE],rfl⟩⟩
 refine J15 ?_
 refine J4 ?_
 refine E0 ?_
 refine CV.loopI (fun(i:Nat)=>i≤ids.length∧ ∀j,j<i→ ¬badI ids.length (ids.getD j idK.d)) (fun(i:Nat)=>ids.length-i) (fun(i:Nat)=>[(0,.slice A ids.length c),(4,.int .i64 (lkI ids i).length),(22,.slice A ids.length c),(23,.int .i64 ids.length),(24,.int .i64 i)]) (fun(i:Nat)=>Hp I w []) (0) ⟨Nat.zero_le _,fun _ h=>by omega⟩ (sb rfl) (fun _ h=>h) ?_
 intro i hinv
 have hll:=lkI_len (ids:=ids) (m:=i) (fun j hj=>by have:=hinv.2 j hj;unfold badI at this;omega)
 refine J2 ?_
 refine Jlt rfl rfl (fun cc1=>?_) (fun cc1=>?_)
 refine J12 ?_
 refine RV.op (Ya (fun b6_2=>?_))
 refine Zw 0 [_,_,_] #[_,_,_] ?_
 refine J7 ?_
 refine Jlt rfl rfl (fun cc2=>?_) (fun cc2=>?_)
 refine J15 ?_
 refine J15 ?_
 refine J4 ?_
 refine E0 ?_
 have hE:newI ids=1:=newI_bad (i:=i) (by omega) (by unfold badI;omega)
 exact Rc rfl rfl rfl ⟨fun h0=>absurd (hE.symm.trans h0) (by first|decide|assumption),fun _=>⟨by rw[hE],rfl⟩⟩
 refine J5 ?_
 refine Jge rfl rfl (fun cc3=>?_) (fun cc3=>?_)
 refine J15 ?_
 refine J13 ?_
 refine E0 ?_
 have hE:newI ids=1:=newI_bad (i:=i) (by omega) (by unfold badI;omega)
 exact Rc rfl rfl rfl ⟨fun h0=>absurd (hE.symm.trans h0) (by first|decide|assumption),fun _=>⟨by rw[hE],rfl⟩⟩
 refine J4 ?_
 refine Jgt rfl rfl (fun cc4=>?_) (fun cc4=>?_)
 refine J15 ?_
 refine J8 ?_
 refine E0 ?_
 have hE:newI ids=1:=newI_bad (i:=i) (by omega) (by unfold badI;omega)
 exact Rc rfl rfl rfl ⟨fun h0=>absurd (hE.symm.trans h0) (by first|decide|assumption),fun _=>⟨by rw[hE],rfl⟩⟩
 refine J5 ?_
 refine Jgt rfl rfl (fun cc5=>?_) (fun cc5=>?_)
 refine J15 ?_
 refine J2 ?_
 refine E0 ?_
 have hE:newI ids=1:=newI_bad (i:=i) (by omega) (by unfold badI;omega)
 exact Rc rfl rfl rfl ⟨fun h0=>absurd (hE.symm.trans h0) (by first|decide|assumption),fun _=>⟨by rw[hE],rfl⟩⟩
 refine J7 ?_
 have hnb: ¬badI ids.length (ids.getD i idK.d):=by unfold badI;omega
 refine J13 ?_
 refine Jge rfl rfl (fun hp=>?_) (fun hp=>?_)
 refine J15 ?_
 refine E0 ?_
 exact KV.loopI (z:=i) (i+1) ⟨by omega,fun j hj=>by by_cases e:j=i;(subst e;exact hnb);exact hinv.2 j (by omega)⟩ (by omega) ⟨rfl,(congrArg (fun x:Int=>some (Value.int .i64 x)) (lkT_pos hp)),rfl,rfl,rfl,trivial⟩ (fun _ h=>h)
 refine J11 ?_
 refine E0 ?_
 exact KV.loopI (z:=i) (i+1) ⟨by omega,fun j hj=>by by_cases e:j=i;(subst e;exact hnb);exact hinv.2 j (by omega)⟩ (by omega) ⟨rfl,(congrArg (fun x:Int=>some (Value.int .i64 x)) (lkT_neg hp)),rfl,rfl,rfl,trivial⟩ (fun _ h=>h)
 refine J11 ?_
 obtain rfl:i=ids.length:=by omega
 refine J2 ?_
 refine Jgt rfl rfl (fun hlong=>?_) (fun hlong=>?_)
 refine J11 ?_
 refine E0 ?_
 have hE:newI ids=1:=newI_long (by omega) hinv.2 (by omega)
 exact Rc rfl rfl rfl ⟨fun h0=>absurd (hE.symm.trans h0) (by first|decide|assumption),fun _=>⟨by rw[hE],rfl⟩⟩
 refine J6 ?_
 have hbad:=hinv.2
 refine J6 ?_
 refine KV.heap (fun w h=>h.nilOS (e:=138) (K:=linkK)) ?_
 refine J7 ?_
 refine E1 ?_
 refine CV.loop2 (fun(i:Nat) (z:LG)=>i≤ids.length) (fun(i:Nat) (z:LG)=>ids.length-i) (fun(i:Nat) (z:LG)=>[(0,.slice A ids.length c),(7,.slice z.A (lkI ids i).length z.c),(62,.slice A ids.length c),(63,.int .i64 ids.length),(64,.int .i64 i)]) (fun(i:Nat) (z:LG)=>Hp I w [OS 138 linkK z.A z.c (lkI ids i)]) (0) (⟨none,0⟩) (Nat.zero_le _) (sb rfl) (fun _ h=>h) ?_
 intro i z hinv
 have hll:=lkI_len (ids:=ids) (m:=i) (fun j hj=>by have:=hbad j (by omega);unfold badI at this;omega)
 refine J2 ?_
 refine Jlt rfl rfl (fun cc6=>?_) (fun cc6=>?_)
 refine J13 ?_
 refine RV.op (Ya (fun b18_3=>?_))
 refine J1 ?_
 refine Zw 1 [_,_,_] #[_,_,_] ?_
 refine J2 ?_
 refine CV.join (fun(x:LG)=>[(0,.slice A ids.length c),(7,.slice x.A (lkI ids i++lk1 i (ids.getD i idK.d) 0).length x.c),(8,.int .i64 i),(9,.pointer (some ⟨b18_3,0,none⟩)),(62,.slice A ids.length c),(63,.int .i64 ids.length),(64,.int .i64 i)]) (fun(x:LG)=>Hp I w [OS 138 linkK x.A x.c (lkI ids i++lk1 i (ids.getD i idK.d) 0),Blk b18_3 (.cells #[.int .i64 (ids.getD i idK.d).par,.slice (ids.getD i idK.d).sup.A (ids.getD i idK.d).sup.ys.length (ids.getD i idK.d).sup.c,.int .u64 (ids.getD i idK.d).dly] 39 (0,0))]) ?_ ?_
 refine J4 ?_
 refine Jge rfl rfl (fun hp=>?_) (fun hp=>?_)
 have hlk:lkI ids i++[⟨(i:Int),(ids.getD i idK.d).par⟩]=lkI ids i++lk1 i (ids.getD i idK.d) 0:=by rw[lk1_pos hp]
 refine J8 ?_
 refine Jr (Step.build rfl (Bd138_0_1 _ _)) ?_
 refine RV.op (OV.buildSlice (K:=linkK) ([⟨_,_⟩]) rfl (Bs128_1_0 _ _) rfl rfl (by omega) gno rfl (fun b20_5=>?_))
 refine RV.op (Ye 0 rfl rfl rfl rfl rfl (fun w h=>h.os 2 rfl) (by simp only[List.length_cons,List.length_nil];omega) (fun A5 c5=>?_))
 refine J3 ?_
 refine E2 ?_
 exact KV.join (⟨A5,c5⟩) ⟨rfl,(congrArg (fun l=>some (Value.slice _ (List.length l) _)) hlk),rfl,rfl,rfl,rfl,rfl,trivial⟩ (fun _ h=>by rw[←hlk];exact h)
 have hlk:lkI ids i=lkI ids i++lk1 i (ids.getD i idK.d) 0:=by rw[lk1_neg hp,List.append_nil]
 refine J5 ?_
 refine E2 ?_
 exact KV.join (⟨z.A,z.c⟩) ⟨rfl,(congrArg (fun l=>some (Value.slice _ (List.length l) _)) hlk),rfl,rfl,rfl,rfl,rfl,trivial⟩ (fun _ h=>by rw[←hlk];exact h)
 intro x
 refine J9 ?_
 refine E1 ?_
 refine CV.loop2 (fun(k:Nat) (y:LG)=>k≤(ids.getD i idK.d).sup.ys.length) (fun(k:Nat) (y:LG)=>(ids.getD i idK.d).sup.ys.length-k) (fun(k:Nat) (y:LG)=>[(0,.slice A ids.length c),(7,.slice y.A (lkI ids i++lk1 i (ids.getD i idK.d) k).length y.c),(8,.int .i64 i),(62,.slice A ids.length c),(63,.int .i64 ids.length),(64,.int .i64 i),(80,.slice (ids.getD i idK.d).sup.A (ids.getD i idK.d).sup.ys.length (ids.getD i idK.d).sup.c),(81,.int .i64 (ids.getD i idK.d).sup.ys.length),(82,.int .i64 k)]) (fun(k:Nat) (y:LG)=>Hp I w [OS 138 linkK y.A y.c (lkI ids i++lk1 i (ids.getD i idK.d) k)]) (0) (x) (Nat.zero_le _) (sb rfl) (fun _ h=>h) ?_
 intro k y hinv2
 have hnb: ¬badI ids.length (ids.getD i idK.d):=hbad i (by omega)
 unfold badI at hnb
 refine J2 ?_
 refine Jlt rfl rfl (fun cc7=>?_) (fun cc7=>?_)
 refine J10 ?_
 refine Jr (Ti (fun w h=>(h.rs (hsu i (by omega)) (fun _=>hI _))) rfl rfl (by first|rfl|omega) _ rfl (by omega)) ?_
 refine Jr (Tc rfl (fun w h=>(h.rs (hsu i (by omega)) (fun _=>hI _)).cell0 (by omega) rfl)) ?_
 refine J7 ?_
 refine Jr (Step.build rfl (Bd138_0_1 _ _)) ?_
 refine RV.op (OV.buildSlice (K:=linkK) ([⟨_,_⟩]) rfl (Bs128_1_0 _ _) rfl rfl (by omega) gno rfl (fun b24_4=>?_))
 refine RV.op (Ye 0 rfl rfl rfl rfl rfl (fun w h=>h.os 1 rfl) (by have:=lk1_len i (ids.getD i idK.d) k;simp only[List.length_append,List.length_cons,List.length_nil];omega) (fun A6 c6=>?_))
 refine J9 ?_
 refine E1 ?_
 exact KV.loop2 (x:=k) (y:=y) (k+1) (⟨A6,c6⟩) (by omega) (by omega) ⟨rfl,(congrArg (fun l=>some (Value.slice A6 (List.length l) c6)) (by rw[lk1_snoc (by omega),List.append_assoc];rfl)),rfl,rfl,rfl,rfl,rfl,rfl,rfl,trivial⟩ (fun _ h=>by rw[lk1_snoc (by omega),←List.append_assoc];exact h)
 refine J15 ?_
 refine E1 ?_
 obtain rfl:k=(ids.getD i idK.d).sup.ys.length:=by omega
 exact KV.loop2 (x:=i) (y:=z) (i+1) (y) (by omega) (by omega) (sb rfl) (fun _ h=>by rw[lkI];exact h)
 refine J10 ?_
 obtain rfl:i=ids.length:=by omega
 refine J4 ?_
 refine RV.op (Yc [] (F:=[_]) rfl rfl (fun w h=>order_fn ids.length (h.os 0 rfl) (by omega)) (fun v L' hp=>?_))
 by_cases hck:chkM ids.length (lkI ids ids.length)=0
 obtain⟨A2,c2,rfl,rfl⟩:=hp.1 hck
 refine J12 ?_
 first|rw[decide_eq_true (show ¬chkM ids.length (lkI ids ids.length)=0 from hck)]|skip
 refine J9 ?_
 refine RV.op (Ym (K:=msK) (ids.length) (ids.length) (ms0) rfl rfl rfl rfl (fun dA=>?_))
 refine J1 ?_
 refine Jr (Step.build rfl (Bd281_0_1 _ _ _ _ _ _)) ?_
 refine RV.op (Yb #[_,_,_] rfl rfl (fun b30_5=>?_))
 refine J5 ?_
 refine KV.heap (fun w h=>Hp.nilMs h ids.length) ?_
 refine J7 ?_
 refine E5 ?_
 refine CV.loop2 (fun(i:Nat) (ms:List MSt)=>i≤ids.length∧MSI ids (lkI ids ids.length) ids.length i 0 0 ms) (fun(i:Nat) (ms:List MSt)=>ids.length-i) (fun(i:Nat) (ms:List MSt)=>[(7,.slice z.A (lkI ids ids.length).length z.c),(14,.pointer (some ⟨b30_5,0,none⟩)),(110,.slice A ids.length c),(111,.int .i64 ids.length),(112,.int .i64 i)]) (fun(i:Nat) (ms:List MSt)=>Hp I w [OS 138 linkK z.A z.c (lkI ids ids.length),OS 3 (intK .i64) A2 c2 (seqM ids.length (lkI ids ids.length)),OS 283 msK dA ids.length ms,Blk b30_5 (.cells #[.slice dA ids.length ids.length,.slice A2 ids.length c2,.int .u64 0] 281 (0,0)),Big msF ms]) (0) (List.replicate ids.length ms0) ⟨Nat.zero_le _,MSI.base _ _ _⟩ (sb rfl) (fun _ h=>h) ?_
 intro i ms hinv
 have hml:=hinv.2.1
 refine J2 ?_
 refine Jlt rfl rfl (fun cc8=>?_) (fun cc8=>?_)
 refine J13 ?_
 refine RV.op (Ya (fun b33_3=>?_))
 refine J1 ?_
 refine Zw 5 [_,_,_] #[_,_,_] ?_
 refine J2 ?_
 refine An (Hp I w [Blk b33_3 (.cells #[.int .i64 (ids.getD i idK.d).par,.slice (ids.getD i idK.d).sup.A (ids.getD i idK.d).sup.ys.length (ids.getD i idK.d).sup.c,.int .u64 (ids.getD i idK.d).dly] 39 (0,0)),Blk b30_5 (.cells #[.slice dA ids.length ids.length,.slice A2 ids.length c2,.int .u64 0] 281 (0,0))]) 10 ?_
 refine W 0 ?_
 refine W 1 ?_
 refine W 2 ?_
 refine W 3 ?_
 refine W 4 ?_
 refine W 5 ?_
 refine W 6 ?_
 refine V1 7 ?_
 refine OV.step gno (Ti (fun w h=>h.os 2 rfl) rfl rfl (by first|rfl|omega) _ rfl (by omega)) rfl ?_
 refine Wn ?_
 refine W 8 ?_
 refine V1 9 ?_
 refine Yx 2 (i) (((ms.getD i msK.d).wD (ids.getD i idK.d).dly)) (j:=2) [_] rfl rfl rfl rfl rfl (by omega) rfl ?_
 refine Wn ?_
 refine Vd ?_
 refine J7 ?_
 refine E5 ?_
 exact KV.loop2 (x:=i) (y:=ms) (i+1) (ms.set i ((ms.getD i msK.d).wD (ids.getD i idK.d).dly)) ⟨by omega,hinv.2.dly (by omega)⟩ (by omega) (sb rfl) (fun _ h=>by rw[bigSet (F:=msF) (a:=((ms.getD i msK.d).wD (ids.getD i idK.d).dly)) ms0 (show i<ms.length by omega) rfl];exact h)
 refine J11 ?_
 obtain rfl:i=ids.length:=by omega
 refine J7 ?_
 refine E5 ?_
 refine CV.loop2 (fun(j:Nat) (ms:List MSt)=>j≤(lkI ids ids.length).length∧MSI ids (lkI ids ids.length) ids.length ids.length j j ms) (fun(j:Nat) (ms:List MSt)=>(lkI ids ids.length).length-j) (fun(j:Nat) (ms:List MSt)=>[(14,.pointer (some ⟨b30_5,0,none⟩)),(127,.slice z.A (lkI ids ids.length).length z.c),(128,.int .i64 (lkI ids ids.length).length),(129,.int .i64 j)]) (fun(j:Nat) (ms:List MSt)=>Hp I w [OS 138 linkK z.A z.c (lkI ids ids.length),OS 3 (intK .i64) A2 c2 (seqM ids.length (lkI ids ids.length)),OS 283 msK dA ids.length ms,Blk b30_5 (.cells #[.slice dA ids.length ids.length,.slice A2 ids.length c2,.int .u64 0] 281 (0,0)),Big msF ms]) (0) (ms) ⟨Nat.zero_le _,hinv.2⟩ (sb rfl) (fun _ h=>h) ?_
 intro j ms hinv
 have hml:=hinv.2.1
 refine J2 ?_
 refine Jlt rfl rfl (fun cc9=>?_) (fun cc9=>?_)
 refine J9 ?_
 have hj:j<(lkI ids ids.length).length:=by omega
 have hok:=chk_okL hck hj
 unfold okL at hok
 obtain⟨s,hs⟩:=Int.eq_ofNat_of_zero_le hok.1.1
 obtain⟨s2,hs2⟩:=Int.eq_ofNat_of_zero_le hok.2.1
 refine J3 ?_
 refine RV.op (Ya (fun b38_2=>?_))
 refine Zw 5 [_,_] #[_,_] ?_
 refine J3 ?_
 have hlen1:=hinv.2.len (s:=s) (by omega)
 refine Ac (Hp I w [Blk b38_2 (.cells #[.int .i64 ((lkI ids ids.length).getD j linkK.d).con,.int .i64 ((lkI ids ids.length).getD j linkK.d).sup] 138 (0,0)),Blk b30_5 (.cells #[.slice dA ids.length ids.length,.slice A2 ids.length c2,.int .u64 0] 281 (0,0)),OS 283 msK dA ids.length ms]) 19 22 ?_
 refine Cw 0 ?_
 refine Cw 1 ?_
 refine Cw 2 ?_
 refine Cw 3 ?_
 refine Cw 4 ?_
 refine Cw 5 ?_
 refine Cw 6 ?_
 refine Cw 7 ?_
 refine Cw 8 ?_
 refine Cw 9 ?_
 refine Cw 10 ?_
 refine Cw 11 ?_
 refine Ct 12 rfl (Ti (fun w h=>h.os 2 rfl) rfl rfl (by first|rfl|omega) _ hs (by omega)) (fun _ h=>h.sel [5,3,2] rfl) ?_
 refine Cw 13 ?_
 refine Ct 14 rfl (Tc rfl (fun w h=>RS.cellAt (h.os 2 rfl) s 0 (by omega) rfl rfl)) (fun _ h=>h.sel [5,3,2] rfl) ?_
 refine Cw 15 ?_
 refine Cw 16 ?_
 refine Q1 17 ?_
 refine OV.buildSlice (K:=(intK .i64)) ([_]) rfl (Bs32_1_0 _) rfl rfl (by omega) gno rfl (fun b39_17=>?_)
 refine K7 [0,0,0,0,1,1,0] rfl ?_
 refine KV.heap (fun w h=>msOpen6 h (m:=s) (by omega)) ?_
 refine Cj ?_
 refine Q1 18 ?_
 refine Ye 0 rfl rfl rfl rfl rfl (fun w h=>h.os 7 rfl) (by simp only[List.length_cons,List.length_nil];omega) (fun A3 c3=>?_)
 refine Cj ?_
 refine Q1 19 ?_
 refine OV.step gno (Ti (fun w h=>h.os 4 rfl) rfl rfl (by first|rfl|omega) _ hs (by omega)) rfl ?_
 refine Cm ?_
 refine Q1 20 ?_
 refine OV.step gno (Tf rfl) rfl ?_
 refine Cm ?_
 refine Q1 21 ?_
 refine Yx 4 (s) (((ms.getD s msK.d).wS ⟨A3,c3,(ms.getD s msK.d).sup.ys++[((lkI ids ids.length).getD j linkK.d).sup]⟩)) (j:=0) [_] rfl rfl rfl rfl rfl (by omega) rfl ?_
 refine K8 [0,0,0,0,0,0,0,1] rfl ?_
 refine KV.heap (fun w h=>msClose5 (ms:=ms) (m:=s) ((ms.getD s msK.d).wS ⟨A3,c3,(ms.getD s msK.d).sup.ys++[((lkI ids ids.length).getD j linkK.d).sup]⟩) h (by omega)) ?_
 refine Cm ?_
 refine Cd ?_
 refine J1 ?_
 have hI1:=hinv.2.supS hj hs (by omega) A3 c3
 obtain⟨ms1,hms1⟩: ∃q,q=ms.set s ((ms.getD s msK.d).wS ⟨A3,c3,(ms.getD s msK.d).sup.ys++[((lkI ids ids.length).getD j linkK.d).sup]⟩):=⟨_,rfl⟩
 rw[←hms1] at hI1 ⊢
 have hml1:=hI1.1
 have hlen2:=hI1.len (s:=s2) (by omega)
 refine Ac (Hp I w [Blk b38_2 (.cells #[.int .i64 ((lkI ids ids.length).getD j linkK.d).con,.int .i64 ((lkI ids ids.length).getD j linkK.d).sup] 138 (0,0)),Blk b30_5 (.cells #[.slice dA ids.length ids.length,.slice A2 ids.length c2,.int .u64 0] 281 (0,0)),OS 283 msK dA ids.length ms1]) 19 22 ?_
 refine Cw 0 ?_
 refine Cw 1 ?_
 refine Cw 2 ?_
 refine Cw 3 ?_
 refine Cw 4 ?_
 refine Cw 5 ?_
 refine Cw 6 ?_
 refine Cw 7 ?_
 refine Cw 8 ?_
 refine Cw 9 ?_
 refine Cw 10 ?_
 refine Cw 11 ?_
 refine Ct 12 rfl (Ti (fun w h=>h.os 2 rfl) rfl rfl (by first|rfl|omega) _ hs2 (by omega)) (fun _ h=>h.sel [4,3,2] rfl) ?_
 refine Cw 13 ?_
 refine Ct 14 rfl (Tc rfl (fun w h=>RS.cellAt (h.os 2 rfl) s2 1 (by omega) rfl rfl)) (fun _ h=>h.sel [4,3,2] rfl) ?_
 refine Cw 15 ?_
 refine Cw 16 ?_
 refine Q1 17 ?_
 refine OV.buildSlice (K:=(intK .i64)) ([_]) rfl (Bs32_1_0 _) rfl rfl (by omega) gno rfl (fun b40_17=>?_)
 refine K7 [0,0,0,0,0,1,0] rfl ?_
 refine KV.heap (fun w h=>msOpen6 h (m:=s2) (by omega)) ?_
 refine Cj ?_
 refine Q1 18 ?_
 refine Ye 1 rfl rfl rfl rfl rfl (fun w h=>h.os 7 rfl) (by simp only[List.length_cons,List.length_nil];omega) (fun A4 c4=>?_)
 refine Cj ?_
 refine Q1 19 ?_
 refine OV.step gno (Ti (fun w h=>h.os 4 rfl) rfl rfl (by first|rfl|omega) _ hs2 (by omega)) rfl ?_
 refine Cm ?_
 refine Q1 20 ?_
 refine OV.step gno (Tf rfl) rfl ?_
 refine Cm ?_
 refine Q1 21 ?_
 refine Yx 4 (s2) (((ms1.getD s2 msK.d).wC ⟨A4,c4,(ms1.getD s2 msK.d).con.ys++[((lkI ids ids.length).getD j linkK.d).con]⟩)) (j:=1) [_] rfl rfl rfl rfl rfl (by omega) rfl ?_
 refine K8 [0,0,0,0,0,0,0,1] rfl ?_
 refine KV.heap (fun w h=>msClose5 (ms:=ms1) (m:=s2) ((ms1.getD s2 msK.d).wC ⟨A4,c4,(ms1.getD s2 msK.d).con.ys++[((lkI ids ids.length).getD j linkK.d).con]⟩) h (by omega)) ?_
 refine Cm ?_
 refine Cd ?_
 refine J7 ?_
 refine K5 [0,0,0,0,1] rfl ?_
 exact KV.loop2 (x:=j) (y:=ms) (j+1) (ms1.set s2 ((ms1.getD s2 msK.d).wC ⟨A4,c4,(ms1.getD s2 msK.d).con.ys++[((lkI ids ids.length).getD j linkK.d).con]⟩)) ⟨by omega,hI1.conS hj hs2 (by omega) A4 c4⟩ (by omega) (sb rfl) (fun _ h=>h)
 refine J15 ?_
 refine J2 ?_
 refine K4 [3,2,2,1] rfl ?_
 have hE:newI ids=0:=(newI_chk (by omega) hbad).trans hck
 obtain rfl:j=(lkI ids ids.length).length:=by omega
 exact Rc rfl rfl rfl ⟨fun _=>⟨⟨b30_5,dA,ids.length,ms,A2,c2,seqM ids.length (lkI ids ids.length),0⟩,by rfl,⟨hinv.2,rfl,rfl⟩,by simp only[mgL,hml,chk_len hck]⟩,fun h0=>absurd hE h0⟩
 obtain⟨rfl,rfl⟩:=hp.2 hck
 simp only[List.append_nil]
 refine J12 ?_
 first|rw[decide_eq_true (show ¬chkM ids.length (lkI ids ids.length)=0 from hck)]|skip
 refine J12 ?_
 refine E0 ?_
 have hE:newI ids=chkM ids.length (lkI ids ids.length):=newI_chk (by omega) hbad
 exact Rc rfl rfl rfl ⟨fun h0=>absurd (hE.symm.trans h0) (by first|decide|assumption),fun _=>⟨by rw[hE],rfl⟩⟩
end Go.Proofs.YtkofjhglgoojiaaGreatDoor.Pw
