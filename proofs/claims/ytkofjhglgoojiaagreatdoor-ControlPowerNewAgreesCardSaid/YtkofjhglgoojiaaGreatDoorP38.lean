/-
  Joined.
-/
import Derived.Test.YtkofjhglgoojiaaGreatDoorP12
set_option linter.unusedSimpArgs false
set_option linter.unusedVariables false
namespace Go.Proofs.YtkofjhglgoojiaaGreatDoor.Dv
set_option maxRecDepth 100000
set_option maxHeartbeats 20000000
open Go.Tk Go.Sv Go.Drv
attribute [local irreducible] KV SV OV Step Code.wp wpList Exit.then Exit.inBlock Blk OS Big Bun
theorem rnumber_fn (s:Bs) (h0:s≠[]) (hl:s.length≤1000000) {w:World}:Fx Tryz.prog 153 [.string (bs s)] w [] no (fun v L=>v= .tuple #[.int .u64 ((numR s).1:Int),.bool (numR s).2]∧L=[]):=by
 refine Fb ?_
 intro I hro hI
 have hs0:0<s.length:=List.length_pos_iff.2 h0
 refine J11 ?_
 refine Jgt rfl rfl (fun a1=>?_) (fun a1=>?_)
 refine J2 ?_
 refine Jr (Step.idxStr Tryz.underlying9 rfl rfl 0 (show(0:Int)=((0:Nat):Int) from rfl) (by omega)) ?_
 refine Jeq rfl rfl (fun a2=>?_) (fun a2=>?_)
 refine J15 ?_
 refine J2 ?_
 refine E0 ?_
 exact Rc rfl rfl rfl ⟨by rw[numR_no (by first|exact num_long (by omega)|exact num_zero (by omega) (UInt8.toNat_inj.1 (show _=48 by omega)))]<;>rfl,rfl⟩
 refine J4 ?_
 refine Jgt rfl rfl (fun a3=>?_) (fun a3=>?_)
 refine J12 ?_
 refine E0 ?_
 exact Rc rfl rfl rfl ⟨by rw[numR_no (by first|exact num_long (by omega)|exact num_zero (by omega) (UInt8.toNat_inj.1 (show _=48 by omega)))]<;>rfl,rfl⟩
 refine J15 ?_
 refine J3 ?_
 refine E0 ?_
 refine CV.loopI (fun(j:Nat)=>j≤s.length∧(∀k,k<j→digB (s.getD k 0)=true)∧valD 0 (s.take j)<18446744073709551616) (fun(j:Nat)=>s.length-j) (fun(j:Nat)=>[(0,.string (bs s)),(4,.int .u64 ((valD 0 (s.take j):Nat):Int)),(5,.int .i64 j)]) (fun(j:Nat)=>Hp I w []) (0) ⟨Nat.zero_le _,fun k hk=>by omega,(show 0<18446744073709551616 by decide)⟩ (sb rfl) (fun _ h=>h) ?_
 intro j hinv
 refine J6 ?_
 refine Jlt rfl rfl (fun hj=>?_) (fun hj=>?_)
 refine J9 ?_
 have hc8:=UInt8.toNat_lt (s.getD j 0)
 refine J3 ?_
 refine Jr (Step.idxStr Tryz.underlying9 rfl rfl _ rfl (by omega)) ?_
 refine Jlt rfl rfl (fun d1=>?_) (fun d1=>?_)
 refine J15 ?_
 refine J7 ?_
 refine E0 ?_
 exact Rc rfl rfl rfl ⟨by rw[numR_no (num_dig (j:=j) (by omega) (decide_eq_false (by omega)))]<;>rfl,rfl⟩
 refine J3 ?_
 refine Jr (Step.idxStr Tryz.underlying9 rfl rfl _ rfl (by omega)) ?_
 refine Jgt rfl rfl (fun d2=>?_) (fun d2=>?_)
 refine J15 ?_
 refine J2 ?_
 refine E0 ?_
 exact Rc rfl rfl rfl ⟨by rw[numR_no (num_dig (j:=j) (by omega) (decide_eq_false (by omega)))]<;>rfl,rfl⟩
 refine J10 ?_
 refine Jr (Step.idxStr Tryz.underlying9 rfl rfl _ rfl (by omega)) ?_
 refine Jr (Step.sub rfl rfl (wU8 (by omega) (by omega))) ?_
 refine Jr (Step.convI Tryz.underlying5 Tryz.underlying37 rfl (wU64 (by omega) (by omega))) ?_
 refine J9 ?_
 refine Jr (Step.quo rfl rfl (by omega) (show IntKind.u64.wrap ((18446744073709551615-(((s.getD j 0).toNat:Int)-48)).tdiv 10)=(18446744073709551615-(((s.getD j 0).toNat:Int)-48))/10 from by rw[Int.tdiv_eq_ediv_of_nonneg (by omega)];exact wU64 (by omega) (by omega))) ?_
 refine Jgt rfl rfl (fun ov=>?_) (fun ov=>?_)
 refine J15 ?_
 refine J1 ?_
 refine E0 ?_
 exact Rc rfl rfl rfl ⟨by rw[numR_no (fun k=>by have h1:=val_next (s:=s) (j:=j) (by omega) (by omega);have h2:=val_le s (j+1);have h3:=k.2;omega)]<;>rfl,rfl⟩
 refine J15 ?_
 refine J5 ?_
 refine E0 ?_
 exact KV.loopI (z:=j) (j+1) ⟨by omega,fun k hk=>by by_cases e:k=j;(subst e;exact decide_eq_true (by omega));exact hinv.2.1 k (by omega),by have:=val_next (s:=s) (j:=j) (by omega) (by omega);omega⟩ (by omega) ⟨rfl,(by rw[val_next (by omega) (by omega)];rfl),rfl,trivial⟩ (fun _ h=>h)
 refine J15 ?_
 refine J1 ?_
 refine E0 ?_
 obtain rfl:j=s.length:=by omega
 have hv:=hinv.2.2
 rw[List.take_length] at hv ⊢
 have hW:numW s=true:=(numW_iff s).2 ⟨h0,by first|(left;omega)|(right;exact fun e=>a2 (by rw[e];rfl)),hinv.2.1⟩
 exact Rc rfl rfl rfl ⟨by rw[numR_yes hW hv],rfl⟩
 refine J8 ?_
 refine Jgt rfl rfl (fun a3=>?_) (fun a3=>?_)
 refine J12 ?_
 refine E0 ?_
 exact Rc rfl rfl rfl ⟨by rw[numR_no (by first|exact num_long (by omega)|exact num_zero (by omega) (UInt8.toNat_inj.1 (show _=48 by omega)))]<;>rfl,rfl⟩
 refine J15 ?_
 refine J3 ?_
 refine E0 ?_
 refine CV.loopI (fun(j:Nat)=>j≤s.length∧(∀k,k<j→digB (s.getD k 0)=true)∧valD 0 (s.take j)<18446744073709551616) (fun(j:Nat)=>s.length-j) (fun(j:Nat)=>[(0,.string (bs s)),(4,.int .u64 ((valD 0 (s.take j):Nat):Int)),(5,.int .i64 j)]) (fun(j:Nat)=>Hp I w []) (0) ⟨Nat.zero_le _,fun k hk=>by omega,(show 0<18446744073709551616 by decide)⟩ (sb rfl) (fun _ h=>h) ?_
 intro j hinv
 refine J6 ?_
 refine Jlt rfl rfl (fun hj=>?_) (fun hj=>?_)
 refine J9 ?_
 have hc8:=UInt8.toNat_lt (s.getD j 0)
 refine J3 ?_
 refine Jr (Step.idxStr Tryz.underlying9 rfl rfl _ rfl (by omega)) ?_
 refine Jlt rfl rfl (fun d1=>?_) (fun d1=>?_)
 refine J15 ?_
 refine J7 ?_
 refine E0 ?_
 exact Rc rfl rfl rfl ⟨by rw[numR_no (num_dig (j:=j) (by omega) (decide_eq_false (by omega)))]<;>rfl,rfl⟩
 refine J3 ?_
 refine Jr (Step.idxStr Tryz.underlying9 rfl rfl _ rfl (by omega)) ?_
 refine Jgt rfl rfl (fun d2=>?_) (fun d2=>?_)
 refine J15 ?_
 refine J2 ?_
 refine E0 ?_
 exact Rc rfl rfl rfl ⟨by rw[numR_no (num_dig (j:=j) (by omega) (decide_eq_false (by omega)))]<;>rfl,rfl⟩
 refine J10 ?_
 refine Jr (Step.idxStr Tryz.underlying9 rfl rfl _ rfl (by omega)) ?_
 refine Jr (Step.sub rfl rfl (wU8 (by omega) (by omega))) ?_
 refine Jr (Step.convI Tryz.underlying5 Tryz.underlying37 rfl (wU64 (by omega) (by omega))) ?_
 refine J9 ?_
 refine Jr (Step.quo rfl rfl (by omega) (show IntKind.u64.wrap ((18446744073709551615-(((s.getD j 0).toNat:Int)-48)).tdiv 10)=(18446744073709551615-(((s.getD j 0).toNat:Int)-48))/10 from by rw[Int.tdiv_eq_ediv_of_nonneg (by omega)];exact wU64 (by omega) (by omega))) ?_
 refine Jgt rfl rfl (fun ov=>?_) (fun ov=>?_)
 refine J15 ?_
 refine J1 ?_
 refine E0 ?_
 exact Rc rfl rfl rfl ⟨by rw[numR_no (fun k=>by have h1:=val_next (s:=s) (j:=j) (by omega) (by omega);have h2:=val_le s (j+1);have h3:=k.2;omega)]<;>rfl,rfl⟩
 refine J15 ?_
 refine J5 ?_
 refine E0 ?_
 exact KV.loopI (z:=j) (j+1) ⟨by omega,fun k hk=>by by_cases e:k=j;(subst e;exact decide_eq_true (by omega));exact hinv.2.1 k (by omega),by have:=val_next (s:=s) (j:=j) (by omega) (by omega);omega⟩ (by omega) ⟨rfl,(by rw[val_next (by omega) (by omega)];rfl),rfl,trivial⟩ (fun _ h=>h)
 refine J15 ?_
 refine J1 ?_
 refine E0 ?_
 obtain rfl:j=s.length:=by omega
 have hv:=hinv.2.2
 rw[List.take_length] at hv ⊢
 have hW:numW s=true:=(numW_iff s).2 ⟨h0,by first|(left;omega)|(right;exact fun e=>a2 (by rw[e];rfl)),hinv.2.1⟩
 exact Rc rfl rfl rfl ⟨by rw[numR_yes hW hv],rfl⟩
theorem rwordTok_fn (s:Bs) (h0:s≠[]) (hl:s.length≤1000000) {w:World}:Fx Tryz.prog 118 [.string (bs s)] w [] no (fun v L=>((wordTok s=some (.nm s)∧v= .tuple #[.agg #[.int .u8 110,.string (bs s),.int .u64 0],.bool true])∨(∃x,wordTok s=some (.num x)∧v= .tuple #[.agg #[.int .u8 100,.string (bs []),.int .u64 x],.bool true])∨(wordTok s=none∧v= .tuple #[.agg #[.int .u8 110,.string (bs s),.int .u64 0],.bool false]))∧L=[]):=by
 refine Fb ?_
 intro I hro hI
 refine J2 ?_
 refine RV.op (OV.alloc #[.int .u8 0,.string (Sv.bs []),.int .u64 0] I292.h rfl gno rfl (fun r=>?_))
 refine J7 ?_
 refine RV.op (Yc [] (F:=[_]) rfl rfl (fun w h=>rnumber_fn s h0 hl) (fun v L' hp=>?_))
 obtain⟨rfl,rfl⟩:=hp
 refine J12 ?_
 refine KV.cases 11 rfl (fun cc1=>?_) (fun cc1=>?_)
 have hn:=numR_t cc1
 refine J4 ?_
 refine Jr (Step.build rfl (Bd292_0_2 _ _)) ?_
 refine Zw 0 [_,_,_] #[_,_,_] ?_
 refine J5 ?_
 rw[hn.2]
 exact KV.retC2 [_,_,_] rfl rfl rfl Tryz.underlying292 rfl I292.h rfl (fun w h=>h.cells 0 rfl) [] (fun _ h=>h.sel [] rfl) ⟨.inr (.inl ⟨_,wt_num (num_nm hn.1.1) hn.1.1 hn.1.2,rfl⟩),rfl⟩
 have hn:=numR_f cc1
 refine J6 ?_
 refine Jr (Step.build rfl (Bd292_0_1 _ _)) ?_
 refine J1 ?_
 refine RV.op (Yp rfl (risName_fn s) ?_)
 refine Zw 0 [_,_,_] #[_,_,_] ?_
 refine J4 ?_
 cases hm:isNm s with
 |true=>exact KV.retC2 [_,_,_] rfl rfl rfl Tryz.underlying292 rfl I292.h rfl (fun w h=>h.cells 0 rfl) [] (fun _ h=>h.sel [] rfl) ⟨.inl ⟨wt_name hm,rfl⟩,rfl⟩
 |false=>exact KV.retC2 [_,_,_] rfl rfl rfl Tryz.underlying292 rfl I292.h rfl (fun w h=>h.cells 0 rfl) [] (fun _ h=>h.sel [] rfl) ⟨.inr (.inr ⟨by unfold wordTok;rw[if_neg (by rw[hm];decide),if_neg hn],rfl⟩),rfl⟩
theorem rtokens_fn (s:Bs) (hs:s.length≤1000000) {w:World}:Fx Tryz.prog 76 [.string (bs s)] w [] no (fun v L=>(∃ts A c,tk (cutH s)=some ts∧ts.length≤s.length∧v= .tuple #[.slice A ts.length c,.bool true]∧L=[OS 292 rtokK A c ts])∨(tk (cutH s)=none∧v= .tuple #[.slice none 0 0,.bool false]∧L=[])):=by
 refine Fb ?_
 intro I hro hI
 have hcl:=cut_le s
 refine J7 ?_
 refine KV.heap (fun w h=>h.nilOS (e:=292) (K:=rtokK)) ?_
 refine J11 ?_
 refine E1 ?_
 refine CV.loop2 (fun(i:Nat) (T:TZ)=>i≤(cutH s).length∧T.ts.length≤i∧Rd (cutH s) i T.ts) (fun(i:Nat) (T:TZ)=>(cutH s).length-i) (fun(i:Nat) (T:TZ)=>[(0,.string (bs s)),(4,.slice T.A T.ts.length T.c),(5,.int .i64 i)]) (fun(i:Nat) (T:TZ)=>Hp I w [OS 292 rtokK T.A T.c T.ts]) (0) (⟨[],none,0⟩) ⟨Nat.zero_le _,Nat.le_refl _,Rd.start _⟩ (sb rfl) (fun _ h=>h) ?_
 intro i T hinv
 refine J6 ?_
 refine Jlt rfl rfl (fun h1=>?_) (fun h1=>?_)
 refine J3 ?_
 refine Jr (Step.idxStr Tryz.underlying9 rfl rfl _ rfl (by omega)) ?_
 refine Jne rfl rfl (fun h2=>?_) (fun h2=>?_)
 refine J8 ?_
 have hiL:i<(cutH s).length:=cut_lt hinv.1 (by omega) h2
 have hget:=cut_get hiL
 refine J3 ?_
 refine Jr (Step.idxStr Tryz.underlying9 rfl rfl _ rfl (by omega)) ?_
 refine J7 ?_
 refine Jeq rfl rfl (fun c1=>?_) (fun c1=>?_)
 refine J15 ?_
 refine J1 ?_
 refine E1 ?_
 exact KV.loop2 (x:=i) (y:=T) (i+1) (T) ⟨by omega,by omega,hinv.2.2.sp hiL (by rw[hget];exact sp_t (by omega))⟩ (by omega) (sb rfl) (fun _ h=>h)
 refine J2 ?_
 refine Jeq rfl rfl (fun c2=>?_) (fun c2=>?_)
 refine J13 ?_
 refine E1 ?_
 exact KV.loop2 (x:=i) (y:=T) (i+1) (T) ⟨by omega,by omega,hinv.2.2.sp hiL (by rw[hget];exact sp_t (by omega))⟩ (by omega) (sb rfl) (fun _ h=>h)
 refine J8 ?_
 refine RV.op (Yp rfl (rword_fn (s.getD i 0)) ?_)
 refine J3 ?_
 refine KV.cases 32 rfl (fun cc1=>?_) (fun cc1=>?_)
 have hwd:wrdB (s.getD i 0)=true:=cc1
 refine J9 ?_
 refine E1 ?_
 refine CV.loopI (fun(e:Nat)=>i≤e∧e≤(cutH s).length∧ ∀k,i≤k→k<e→wrdB (s.getD k 0)=true) (fun(e:Nat)=>s.length-e) (fun(e:Nat)=>[(0,.string (bs s)),(4,.slice T.A T.ts.length T.c),(5,.int .i64 i),(7,.int .i64 e)]) (fun(e:Nat)=>Hp I w [OS 292 rtokK T.A T.c T.ts]) (i) ⟨Nat.le_refl _,by omega,fun k h1 h2=>by omega⟩ (sb rfl) (fun _ h=>h) ?_
 intro e hi2
 refine J6 ?_
 refine Jlt rfl rfl (fun he=>?_) (fun he=>?_)
 refine J3 ?_
 refine Jr (Step.idxStr Tryz.underlying9 rfl rfl _ rfl (by omega)) ?_
 refine RV.op (Yp rfl (rword_fn (s.getD e 0)) ?_)
 refine J3 ?_
 refine KV.cases 45 rfl (fun cc2=>?_) (fun cc2=>?_)
 have hw:wrdB (s.getD e 0)=true:=cc2
 refine J11 ?_
 refine E1 ?_
 exact KV.loopI (z:=e) (e+1) ⟨by omega,cut_lt hi2.2.1 (by omega) (wrd_35 hw),fun k h1 h2=>by by_cases e2:k=e;(subst e2;exact hw);exact hi2.2.2 k h1 (by omega)⟩ (by omega) (sb rfl) (fun _ h=>h)
 have hw:wrdB (s.getD e 0)=false:=cc2
 refine J7 ?_
 have hend: ¬e<s.length∨wrdB (s.getD e 0)=false:=by first|exact .inr hw|exact .inl (by omega)
 have hie:i<e:=Nat.lt_of_le_of_ne hi2.1 (fun e2=>by subst e2;rcases hend with h|h;omega;(rw[hwd] at h;cases h))
 obtain⟨hWn,hWs⟩:=tk_wrd hinv.2.2 hiL hwd hi2.1 hi2.2.1 hi2.2.2 hend
 have hwne:((s.take e).drop i)≠[]:=by intro h5;have h6:=congrArg List.length h5;rw[List.length_drop,List.length_take,List.length_nil] at h6;have:=cut_le s;omega
 refine J4 ?_
 refine Jr (Step.slStrLH Tryz.underlying9 rfl rfl rfl (i) (e) (rfl) (rfl) (by omega) (by omega)) ?_
 refine RV.op (Yc [] (F:=[_]) rfl rfl (fun w h=>rwordTok_fn ((s.take e).drop i) hwne (by rw[List.length_drop,List.length_take];omega)) (fun v L' hp=>?_))
 obtain⟨hv,rfl⟩:=hp
 simp only[List.append_nil]
 rcases hv with ⟨hwt,rfl⟩|⟨x,hwt,rfl⟩|⟨hwt,rfl⟩
 refine J3 ?_
 refine RV.op (OV.alloc #[.int .u8 0,.string (Sv.bs []),.int .u64 0] I292.h rfl gno rfl (fun q=>?_))
 refine Zw 1 [_,_,_] #[_,_,_] ?_
 refine J15 ?_
 refine J2 ?_
 refine RV.op (OV.buildSlice (K:=rtokK) ([MT.nm ((s.take e).drop i)]) rfl (Bs221_1_0 _ _ _) rfl rfl (by omega) gno rfl (fun b15_2=>?_))
 refine RV.op (Ye 0 rfl rfl rfl rfl rfl (fun w h=>h.os 2 rfl) (by simp only[List.length_cons,List.length_nil];omega) (fun A2 c2=>?_))
 refine J10 ?_
 refine E1 ?_
 exact KV.loop2 (x:=i) (y:=T) (e) (⟨T.ts++[.nm ((s.take e).drop i)],A2,c2⟩) ⟨by omega,(by simp only[List.length_append,List.length_cons,List.length_nil];omega),(hWs _ hwt).2⟩ (by omega) (sb rfl) (fun _ h=>h)
 refine J3 ?_
 refine RV.op (OV.alloc #[.int .u8 0,.string (Sv.bs []),.int .u64 0] I292.h rfl gno rfl (fun q=>?_))
 refine Zw 1 [_,_,_] #[_,_,_] ?_
 refine J15 ?_
 refine J2 ?_
 refine RV.op (OV.buildSlice (K:=rtokK) ([MT.num x]) rfl (Bs221_1_0 _ _ _) rfl rfl (by omega) gno rfl (fun b15_2=>?_))
 refine RV.op (Ye 0 rfl rfl rfl rfl rfl (fun w h=>h.os 2 rfl) (by simp only[List.length_cons,List.length_nil];omega) (fun A2 c2=>?_))
 refine J10 ?_
 refine E1 ?_
 exact KV.loop2 (x:=i) (y:=T) (e) (⟨T.ts++[.num x],A2,c2⟩) ⟨by omega,(by simp only[List.length_append,List.length_cons,List.length_nil];omega),(hWs _ hwt).2⟩ (by omega) (sb rfl) (fun _ h=>h)
 refine J3 ?_
 refine RV.op (OV.alloc #[.int .u8 0,.string (Sv.bs []),.int .u64 0] I292.h rfl gno rfl (fun q=>?_))
 refine Zw 1 [_,_,_] #[_,_,_] ?_
 refine J15 ?_
 refine J9 ?_
 refine E0 ?_
 exact Rc rfl rfl rfl (.inr ⟨hWn hwt,rfl,rfl⟩)
 refine J15 ?_
 have hend: ¬e<s.length∨wrdB (s.getD e 0)=false:=by first|exact .inr hw|exact .inl (by omega)
 have hie:i<e:=Nat.lt_of_le_of_ne hi2.1 (fun e2=>by subst e2;rcases hend with h|h;omega;(rw[hwd] at h;cases h))
 obtain⟨hWn,hWs⟩:=tk_wrd hinv.2.2 hiL hwd hi2.1 hi2.2.1 hi2.2.2 hend
 have hwne:((s.take e).drop i)≠[]:=by intro h5;have h6:=congrArg List.length h5;rw[List.length_drop,List.length_take,List.length_nil] at h6;have:=cut_le s;omega
 refine J4 ?_
 refine Jr (Step.slStrLH Tryz.underlying9 rfl rfl rfl (i) (e) (rfl) (rfl) (by omega) (by omega)) ?_
 refine RV.op (Yc [] (F:=[_]) rfl rfl (fun w h=>rwordTok_fn ((s.take e).drop i) hwne (by rw[List.length_drop,List.length_take];omega)) (fun v L' hp=>?_))
 obtain⟨hv,rfl⟩:=hp
 simp only[List.append_nil]
 rcases hv with ⟨hwt,rfl⟩|⟨x,hwt,rfl⟩|⟨hwt,rfl⟩
 refine J3 ?_
 refine RV.op (OV.alloc #[.int .u8 0,.string (Sv.bs []),.int .u64 0] I292.h rfl gno rfl (fun q=>?_))
 refine Zw 1 [_,_,_] #[_,_,_] ?_
 refine J15 ?_
 refine J2 ?_
 refine RV.op (OV.buildSlice (K:=rtokK) ([MT.nm ((s.take e).drop i)]) rfl (Bs221_1_0 _ _ _) rfl rfl (by omega) gno rfl (fun b15_2=>?_))
 refine RV.op (Ye 0 rfl rfl rfl rfl rfl (fun w h=>h.os 2 rfl) (by simp only[List.length_cons,List.length_nil];omega) (fun A2 c2=>?_))
 refine J10 ?_
 refine E1 ?_
 exact KV.loop2 (x:=i) (y:=T) (e) (⟨T.ts++[.nm ((s.take e).drop i)],A2,c2⟩) ⟨by omega,(by simp only[List.length_append,List.length_cons,List.length_nil];omega),(hWs _ hwt).2⟩ (by omega) (sb rfl) (fun _ h=>h)
 refine J3 ?_
 refine RV.op (OV.alloc #[.int .u8 0,.string (Sv.bs []),.int .u64 0] I292.h rfl gno rfl (fun q=>?_))
 refine Zw 1 [_,_,_] #[_,_,_] ?_
 refine J15 ?_
 refine J2 ?_
 refine RV.op (OV.buildSlice (K:=rtokK) ([MT.num x]) rfl (Bs221_1_0 _ _ _) rfl rfl (by omega) gno rfl (fun b15_2=>?_))
 refine RV.op (Ye 0 rfl rfl rfl rfl rfl (fun w h=>h.os 2 rfl) (by simp only[List.length_cons,List.length_nil];omega) (fun A2 c2=>?_))
 refine J10 ?_
 refine E1 ?_
 exact KV.loop2 (x:=i) (y:=T) (e) (⟨T.ts++[.num x],A2,c2⟩) ⟨by omega,(by simp only[List.length_append,List.length_cons,List.length_nil];omega),(hWs _ hwt).2⟩ (by omega) (sb rfl) (fun _ h=>h)
 refine J3 ?_
 refine RV.op (OV.alloc #[.int .u8 0,.string (Sv.bs []),.int .u64 0] I292.h rfl gno rfl (fun q=>?_))
 refine Zw 1 [_,_,_] #[_,_,_] ?_
 refine J15 ?_
 refine J9 ?_
 refine E0 ?_
 exact Rc rfl rfl rfl (.inr ⟨hWn hwt,rfl,rfl⟩)
 have hwd:wrdB (s.getD i 0)=false:=cc1
 refine J4 ?_
 refine Jeq rfl rfl (fun a1=>?_) (fun a1=>?_)
 refine J5 ?_
 refine Jlt rfl rfl (fun a2=>?_) (fun a2=>?_)
 refine J5 ?_
 refine Jr (Step.idxStr Tryz.underlying9 rfl rfl _ (show((i:Int)+1)=((i+1:Nat):Int) by omega) (by omega)) ?_
 refine Jeq rfl rfl (fun a3=>?_) (fun a3=>?_)
 refine J8 ?_
 refine Jr (Step.build rfl (Bd292_0 _)) ?_
 refine RV.op (OV.buildSlice (K:=rtokK) ([MT.sym 62]) rfl (Bs221_1_0 _ _ _) rfl rfl (by omega) gno rfl (fun b18_2=>?_))
 refine RV.op (Ye 0 rfl rfl rfl rfl rfl (fun w h=>h.os 1 rfl) (by simp only[List.length_cons,List.length_nil];omega) (fun A2 c2=>?_))
 refine J11 ?_
 refine E1 ?_
 exact KV.loop2 (x:=i) (y:=T) (i+2) (⟨T.ts++[.sym 62],A2,c2⟩) ⟨by have:=(arr_t hiL a1 (by omega) a3).1;rw[List.length_drop] at this;omega,(by simp only[List.length_append,List.length_cons,List.length_nil];omega),hinv.2.2.arr (arr_t hiL a1 (by omega) a3)⟩ (by omega) (sb rfl) (fun _ h=>h)
 refine J8 ?_
 refine Jeq rfl rfl (fun s1=>?_) (fun s1=>?_)
 refine J15 ?_
 refine J5 ?_
 refine Jr (Step.build rfl (Bd292_0 _)) ?_
 refine RV.op (OV.buildSlice (K:=rtokK) ([MT.sym (s.getD i 0).toNat]) rfl (Bs221_1_0 _ _ _) rfl rfl (by omega) gno rfl (fun b21_3=>?_))
 refine RV.op (Ye 0 rfl rfl rfl rfl rfl (fun w h=>h.os 1 rfl) (by simp only[List.length_cons,List.length_nil];omega) (fun A2 c2=>?_))
 refine J11 ?_
 refine E1 ?_
 exact KV.loop2 (x:=i) (y:=T) (i+1) (⟨T.ts++[.sym (s.getD i 0).toNat],A2,c2⟩) ⟨by omega,(by simp only[List.length_append,List.length_cons,List.length_nil];omega),by have h7:=hinv.2.2.sym hiL (by rw[hget];exact sp_f (by omega)) (by rw[hget];exact sym_t (by omega));rw[hget] at h7;exact h7⟩ (by omega) (sb rfl) (fun _ h=>h)
 refine J2 ?_
 refine Jeq rfl rfl (fun s2=>?_) (fun s2=>?_)
 refine J15 ?_
 refine J2 ?_
 refine Jr (Step.build rfl (Bd292_0 _)) ?_
 refine RV.op (OV.buildSlice (K:=rtokK) ([MT.sym (s.getD i 0).toNat]) rfl (Bs221_1_0 _ _ _) rfl rfl (by omega) gno rfl (fun b21_3=>?_))
 refine RV.op (Ye 0 rfl rfl rfl rfl rfl (fun w h=>h.os 1 rfl) (by simp only[List.length_cons,List.length_nil];omega) (fun A2 c2=>?_))
 refine J11 ?_
 refine E1 ?_
 exact KV.loop2 (x:=i) (y:=T) (i+1) (⟨T.ts++[.sym (s.getD i 0).toNat],A2,c2⟩) ⟨by omega,(by simp only[List.length_append,List.length_cons,List.length_nil];omega),by have h7:=hinv.2.2.sym hiL (by rw[hget];exact sp_f (by omega)) (by rw[hget];exact sym_t (by omega));rw[hget] at h7;exact h7⟩ (by omega) (sb rfl) (fun _ h=>h)
 refine J3 ?_
 refine Jeq rfl rfl (fun s3=>?_) (fun s3=>?_)
 refine J13 ?_
 refine Jr (Step.build rfl (Bd292_0 _)) ?_
 refine RV.op (OV.buildSlice (K:=rtokK) ([MT.sym (s.getD i 0).toNat]) rfl (Bs221_1_0 _ _ _) rfl rfl (by omega) gno rfl (fun b21_3=>?_))
 refine RV.op (Ye 0 rfl rfl rfl rfl rfl (fun w h=>h.os 1 rfl) (by simp only[List.length_cons,List.length_nil];omega) (fun A2 c2=>?_))
 refine J11 ?_
 refine E1 ?_
 exact KV.loop2 (x:=i) (y:=T) (i+1) (⟨T.ts++[.sym (s.getD i 0).toNat],A2,c2⟩) ⟨by omega,(by simp only[List.length_append,List.length_cons,List.length_nil];omega),by have h7:=hinv.2.2.sym hiL (by rw[hget];exact sp_f (by omega)) (by rw[hget];exact sym_t (by omega));rw[hget] at h7;exact h7⟩ (by omega) (sb rfl) (fun _ h=>h)
 refine J3 ?_
 refine Jeq rfl rfl (fun s4=>?_) (fun s4=>?_)
 refine J9 ?_
 refine Jr (Step.build rfl (Bd292_0 _)) ?_
 refine RV.op (OV.buildSlice (K:=rtokK) ([MT.sym (s.getD i 0).toNat]) rfl (Bs221_1_0 _ _ _) rfl rfl (by omega) gno rfl (fun b21_3=>?_))
 refine RV.op (Ye 0 rfl rfl rfl rfl rfl (fun w h=>h.os 1 rfl) (by simp only[List.length_cons,List.length_nil];omega) (fun A2 c2=>?_))
 refine J11 ?_
 refine E1 ?_
 exact KV.loop2 (x:=i) (y:=T) (i+1) (⟨T.ts++[.sym (s.getD i 0).toNat],A2,c2⟩) ⟨by omega,(by simp only[List.length_append,List.length_cons,List.length_nil];omega),by have h7:=hinv.2.2.sym hiL (by rw[hget];exact sp_f (by omega)) (by rw[hget];exact sym_t (by omega));rw[hget] at h7;exact h7⟩ (by omega) (sb rfl) (fun _ h=>h)
 refine J15 ?_
 refine J2 ?_
 refine E0 ?_
 exact Rc rfl rfl rfl (.inr ⟨tk_bad hinv.2.2 hiL (sp_f (by omega)) (sym_f (by omega)) (arr_f hiL (by omega)) hwd,rfl,rfl⟩)
 refine J15 ?_
 refine Jeq rfl rfl (fun s1=>?_) (fun s1=>?_)
 refine J15 ?_
 refine J5 ?_
 refine Jr (Step.build rfl (Bd292_0 _)) ?_
 refine RV.op (OV.buildSlice (K:=rtokK) ([MT.sym (s.getD i 0).toNat]) rfl (Bs221_1_0 _ _ _) rfl rfl (by omega) gno rfl (fun b21_3=>?_))
 refine RV.op (Ye 0 rfl rfl rfl rfl rfl (fun w h=>h.os 1 rfl) (by simp only[List.length_cons,List.length_nil];omega) (fun A2 c2=>?_))
 refine J11 ?_
 refine E1 ?_
 exact KV.loop2 (x:=i) (y:=T) (i+1) (⟨T.ts++[.sym (s.getD i 0).toNat],A2,c2⟩) ⟨by omega,(by simp only[List.length_append,List.length_cons,List.length_nil];omega),by have h7:=hinv.2.2.sym hiL (by rw[hget];exact sp_f (by omega)) (by rw[hget];exact sym_t (by omega));rw[hget] at h7;exact h7⟩ (by omega) (sb rfl) (fun _ h=>h)
 refine J2 ?_
 refine Jeq rfl rfl (fun s2=>?_) (fun s2=>?_)
 refine J15 ?_
 refine J2 ?_
 refine Jr (Step.build rfl (Bd292_0 _)) ?_
 refine RV.op (OV.buildSlice (K:=rtokK) ([MT.sym (s.getD i 0).toNat]) rfl (Bs221_1_0 _ _ _) rfl rfl (by omega) gno rfl (fun b21_3=>?_))
 refine RV.op (Ye 0 rfl rfl rfl rfl rfl (fun w h=>h.os 1 rfl) (by simp only[List.length_cons,List.length_nil];omega) (fun A2 c2=>?_))
 refine J11 ?_
 refine E1 ?_
 exact KV.loop2 (x:=i) (y:=T) (i+1) (⟨T.ts++[.sym (s.getD i 0).toNat],A2,c2⟩) ⟨by omega,(by simp only[List.length_append,List.length_cons,List.length_nil];omega),by have h7:=hinv.2.2.sym hiL (by rw[hget];exact sp_f (by omega)) (by rw[hget];exact sym_t (by omega));rw[hget] at h7;exact h7⟩ (by omega) (sb rfl) (fun _ h=>h)
 refine J3 ?_
 refine Jeq rfl rfl (fun s3=>?_) (fun s3=>?_)
 refine J13 ?_
 refine Jr (Step.build rfl (Bd292_0 _)) ?_
 refine RV.op (OV.buildSlice (K:=rtokK) ([MT.sym (s.getD i 0).toNat]) rfl (Bs221_1_0 _ _ _) rfl rfl (by omega) gno rfl (fun b21_3=>?_))
 refine RV.op (Ye 0 rfl rfl rfl rfl rfl (fun w h=>h.os 1 rfl) (by simp only[List.length_cons,List.length_nil];omega) (fun A2 c2=>?_))
 refine J11 ?_
 refine E1 ?_
 exact KV.loop2 (x:=i) (y:=T) (i+1) (⟨T.ts++[.sym (s.getD i 0).toNat],A2,c2⟩) ⟨by omega,(by simp only[List.length_append,List.length_cons,List.length_nil];omega),by have h7:=hinv.2.2.sym hiL (by rw[hget];exact sp_f (by omega)) (by rw[hget];exact sym_t (by omega));rw[hget] at h7;exact h7⟩ (by omega) (sb rfl) (fun _ h=>h)
 refine J3 ?_
 refine Jeq rfl rfl (fun s4=>?_) (fun s4=>?_)
 refine J9 ?_
 refine Jr (Step.build rfl (Bd292_0 _)) ?_
 refine RV.op (OV.buildSlice (K:=rtokK) ([MT.sym (s.getD i 0).toNat]) rfl (Bs221_1_0 _ _ _) rfl rfl (by omega) gno rfl (fun b21_3=>?_))
 refine RV.op (Ye 0 rfl rfl rfl rfl rfl (fun w h=>h.os 1 rfl) (by simp only[List.length_cons,List.length_nil];omega) (fun A2 c2=>?_))
 refine J11 ?_
 refine E1 ?_
 exact KV.loop2 (x:=i) (y:=T) (i+1) (⟨T.ts++[.sym (s.getD i 0).toNat],A2,c2⟩) ⟨by omega,(by simp only[List.length_append,List.length_cons,List.length_nil];omega),by have h7:=hinv.2.2.sym hiL (by rw[hget];exact sp_f (by omega)) (by rw[hget];exact sym_t (by omega));rw[hget] at h7;exact h7⟩ (by omega) (sb rfl) (fun _ h=>h)
 refine J15 ?_
 refine J2 ?_
 refine E0 ?_
 exact Rc rfl rfl rfl (.inr ⟨tk_bad hinv.2.2 hiL (sp_f (by omega)) (sym_f (by omega)) (arr_f hiL (by omega)) hwd,rfl,rfl⟩)
 refine J15 ?_
 refine J6 ?_
 refine Jeq rfl rfl (fun s1=>?_) (fun s1=>?_)
 refine J15 ?_
 refine J5 ?_
 refine Jr (Step.build rfl (Bd292_0 _)) ?_
 refine RV.op (OV.buildSlice (K:=rtokK) ([MT.sym (s.getD i 0).toNat]) rfl (Bs221_1_0 _ _ _) rfl rfl (by omega) gno rfl (fun b21_3=>?_))
 refine RV.op (Ye 0 rfl rfl rfl rfl rfl (fun w h=>h.os 1 rfl) (by simp only[List.length_cons,List.length_nil];omega) (fun A2 c2=>?_))
 refine J11 ?_
 refine E1 ?_
 exact KV.loop2 (x:=i) (y:=T) (i+1) (⟨T.ts++[.sym (s.getD i 0).toNat],A2,c2⟩) ⟨by omega,(by simp only[List.length_append,List.length_cons,List.length_nil];omega),by have h7:=hinv.2.2.sym hiL (by rw[hget];exact sp_f (by omega)) (by rw[hget];exact sym_t (by omega));rw[hget] at h7;exact h7⟩ (by omega) (sb rfl) (fun _ h=>h)
 refine J2 ?_
 refine Jeq rfl rfl (fun s2=>?_) (fun s2=>?_)
 refine J15 ?_
 refine J2 ?_
 refine Jr (Step.build rfl (Bd292_0 _)) ?_
 refine RV.op (OV.buildSlice (K:=rtokK) ([MT.sym (s.getD i 0).toNat]) rfl (Bs221_1_0 _ _ _) rfl rfl (by omega) gno rfl (fun b21_3=>?_))
 refine RV.op (Ye 0 rfl rfl rfl rfl rfl (fun w h=>h.os 1 rfl) (by simp only[List.length_cons,List.length_nil];omega) (fun A2 c2=>?_))
 refine J11 ?_
 refine E1 ?_
 exact KV.loop2 (x:=i) (y:=T) (i+1) (⟨T.ts++[.sym (s.getD i 0).toNat],A2,c2⟩) ⟨by omega,(by simp only[List.length_append,List.length_cons,List.length_nil];omega),by have h7:=hinv.2.2.sym hiL (by rw[hget];exact sp_f (by omega)) (by rw[hget];exact sym_t (by omega));rw[hget] at h7;exact h7⟩ (by omega) (sb rfl) (fun _ h=>h)
 refine J3 ?_
 refine Jeq rfl rfl (fun s3=>?_) (fun s3=>?_)
 refine J13 ?_
 refine Jr (Step.build rfl (Bd292_0 _)) ?_
 refine RV.op (OV.buildSlice (K:=rtokK) ([MT.sym (s.getD i 0).toNat]) rfl (Bs221_1_0 _ _ _) rfl rfl (by omega) gno rfl (fun b21_3=>?_))
 refine RV.op (Ye 0 rfl rfl rfl rfl rfl (fun w h=>h.os 1 rfl) (by simp only[List.length_cons,List.length_nil];omega) (fun A2 c2=>?_))
 refine J11 ?_
 refine E1 ?_
 exact KV.loop2 (x:=i) (y:=T) (i+1) (⟨T.ts++[.sym (s.getD i 0).toNat],A2,c2⟩) ⟨by omega,(by simp only[List.length_append,List.length_cons,List.length_nil];omega),by have h7:=hinv.2.2.sym hiL (by rw[hget];exact sp_f (by omega)) (by rw[hget];exact sym_t (by omega));rw[hget] at h7;exact h7⟩ (by omega) (sb rfl) (fun _ h=>h)
 refine J3 ?_
 refine Jeq rfl rfl (fun s4=>?_) (fun s4=>?_)
 refine J9 ?_
 refine Jr (Step.build rfl (Bd292_0 _)) ?_
 refine RV.op (OV.buildSlice (K:=rtokK) ([MT.sym (s.getD i 0).toNat]) rfl (Bs221_1_0 _ _ _) rfl rfl (by omega) gno rfl (fun b21_3=>?_))
 refine RV.op (Ye 0 rfl rfl rfl rfl rfl (fun w h=>h.os 1 rfl) (by simp only[List.length_cons,List.length_nil];omega) (fun A2 c2=>?_))
 refine J11 ?_
 refine E1 ?_
 exact KV.loop2 (x:=i) (y:=T) (i+1) (⟨T.ts++[.sym (s.getD i 0).toNat],A2,c2⟩) ⟨by omega,(by simp only[List.length_append,List.length_cons,List.length_nil];omega),by have h7:=hinv.2.2.sym hiL (by rw[hget];exact sp_f (by omega)) (by rw[hget];exact sym_t (by omega));rw[hget] at h7;exact h7⟩ (by omega) (sb rfl) (fun _ h=>h)
 refine J15 ?_
 refine J2 ?_
 refine E0 ?_
 exact Rc rfl rfl rfl (.inr ⟨tk_bad hinv.2.2 hiL (sp_f (by omega)) (sym_f (by omega)) (arr_f hiL (by omega)) hwd,rfl,rfl⟩)
 refine J15 ?_
 refine J2 ?_
 obtain rfl:i=(cutH s).length:=by first|exact cut_end1 hinv.1 (by omega)|exact cut_end2 hinv.1 (Decidable.not_not.1 h2)
 exact Rc rfl rfl rfl (.inl ⟨T.ts,T.A,T.c,hinv.2.2.fin,by omega,rfl,rfl⟩)
 refine J15 ?_
 refine J7 ?_
 obtain rfl:i=(cutH s).length:=by first|exact cut_end1 hinv.1 (by omega)|exact cut_end2 hinv.1 (Decidable.not_not.1 h2)
 exact Rc rfl rfl rfl (.inl ⟨T.ts,T.A,T.c,hinv.2.2.fin,by omega,rfl,rfl⟩)
end Go.Proofs.YtkofjhglgoojiaaGreatDoor.Dv
