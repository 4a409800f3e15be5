/-
  Joined.
-/
import Derived.Test.YtkofjhglgoojiaaGreatDoorP44
set_option linter.unusedSimpArgs false
set_option linter.unusedVariables false
namespace Go.Proofs.YtkofjhglgoojiaaGreatDoor.Pw
set_option maxRecDepth 100000
set_option maxHeartbeats 20000000
open Go.Tk Go.Sv Go.Rails Go.Dg Go.Pw
attribute [local irreducible] KV SV OV Step Code.wp wpList Exit.then Exit.inBlock Blk OS Big Bun
theorem someD_fn {A:Option Addr} {n c:Nat} {ds:List PDv} (m:Nat) {w:World} (hr:RS w pdK A ds) (hn:n=ds.length) (hl:ds.length≤1000000) (hds: ∀i,i<ds.length→(ds.getD i pdK.d).rs w) (hsm: ∀i,i<ds.length→(ds.getD i pdK.d).sm 1000000) (hm:m≤1000000):Fx Tryz.prog 26 [.slice A n c,.int .i64 m] w [] no (fun v L=> ∃z:SG,v= .slice z.A z.es.length z.c∧L=[OS 36 pdK z.A z.c z.es,Big pdF z.es]∧z.es.length≤6∧z.es.length≤ds.length∧ ∀i,i<z.es.length→SmA (z.es.getD i pdK.d) i m∧DpA (z.es.getD i pdK.d) 6):=by
 subst hn
 refine Fb ?_
 intro I hro hI
 refine J12 ?_
 refine KV.heap (fun w h=>Hp.nilBig (F:=pdF) (h.nilOS (e:=36) (K:=pdK))) ?_
 refine J5 ?_
 refine E2 ?_
 refine CV.loop2 (fun(i:Nat) (z:SG)=>((i≤ds.length∧i≤6)∧z.es.length=i)∧ ∀j,j<i→SmA (z.es.getD j pdK.d) j m∧DpA (z.es.getD j pdK.d) 6) (fun(i:Nat) (z:SG)=>6-i) (fun(i:Nat) (z:SG)=>[(0,.slice A ds.length c),(1,.int .i64 m),(5,.slice z.A z.es.length z.c),(6,.int .i64 i)]) (fun(i:Nat) (z:SG)=>Hp I w [OS 36 pdK z.A z.c z.es,Big pdF z.es]) (0) (⟨none,0,[]⟩) ⟨⟨⟨Nat.zero_le _,Nat.zero_le _⟩,rfl⟩,fun _ h=>by omega⟩ (sb rfl) (fun _ h=>h) ?_
 intro i z hinv
 refine J6 ?_
 refine Jlt rfl rfl (fun cc1=>?_) (fun cc1=>?_)
 refine J2 ?_
 refine Jlt rfl rfl (fun cc2=>?_) (fun cc2=>?_)
 refine J8 ?_
 refine CV.join (fun(b5:Nat)=>[(0,.slice A ds.length c),(1,.int .i64 m),(5,.slice z.A z.es.length z.c),(6,.int .i64 i),(7,.pointer (some ⟨b5,0,none⟩))]) (fun(b5:Nat)=>Hp I w [OS 36 pdK z.A z.c z.es,Big pdF z.es,Blk b5 (.cells (pdC ⟨modM (ds.getD i pdK.d).par (i+1)-1,hd0,hd0,hd0,hd0,0,0,0,0,0,0,modM (ds.getD i pdK.d).wd 4,modM (ds.getD i pdK.d).ws 5⟩).toArray 36 (0,0))]) ?_ ?_
 have hmb:=modM_lt (ds.getD i pdK.d).par (n:=i+1) (by omega)
 refine An (Hp I w []) 24 ?_
 refine W 0 ?_
 refine W 1 ?_
 refine W 2 ?_
 refine W 3 ?_
 refine Wt 4 rfl (Tc rfl (fun w h=>RS.cellAt (h.rs hr (fun _=>hI _)) i 0 (by omega) rfl rfl)) ?_
 refine W 5 ?_
 refine W 6 ?_
 refine W 9 ?_
 refine W 10 ?_
 refine W 11 ?_
 refine W 12 ?_
 refine Wt 13 rfl (Tc rfl (fun w h=>RS.cellAt (h.rs hr (fun _=>hI _)) i 12 (by omega) rfl rfl)) ?_
 refine W 15 ?_
 refine W 16 ?_
 refine W 17 ?_
 refine W 18 ?_
 refine Wt 19 rfl (Tc rfl (fun w h=>RS.cellAt (h.rs hr (fun _=>hI _)) i 11 (by omega) rfl rfl)) ?_
 refine V2 7 22 ?_ ?_
 refine Yp rfl (Rl.mod_fn (ds.getD i pdK.d).par (i+1) (by omega) (by omega)) ?_
 refine Wn ?_
 refine W 8 ?_
 refine V2 14 22 ?_ ?_
 refine Yp rfl (Rl.mod_fn (ds.getD i pdK.d).ws 5 (by decide) (by decide)) ?_
 refine Wn ?_
 refine V2 20 22 ?_ ?_
 refine Yp rfl (Rl.mod_fn (ds.getD i pdK.d).wd 4 (by decide) (by decide)) ?_
 refine Wn ?_
 refine Wt 21 rfl (Step.build rfl (Bd36_0_4_3 _ _ _)) ?_
 refine V1 22 ?_
 refine Ya (fun b5=>?_)
 refine Wn ?_
 refine V1 23 ?_
 refine Yw 2 [_,_,_,_,_,_,_,_,_,_,_,_,_] #[_,_,_,_,_,_,_,_,_,_,_,_,_] rfl rfl rfl rfl rfl ?_
 refine Wn ?_
 refine Vd ?_
 refine J1 ?_
 refine E3 ?_
 exact KV.join (b5) (sb rfl) (fun _ h=>h)
 refine Ya (fun b5=>?_)
 refine Wn ?_
 refine V1 20 ?_
 refine Yp rfl (Rl.mod_fn (ds.getD i pdK.d).wd 4 (by decide) (by decide)) ?_
 refine Wn ?_
 refine Wt 21 rfl (Step.build rfl (Bd36_0_4_3 _ _ _)) ?_
 refine V1 23 ?_
 refine Yw 2 [_,_,_,_,_,_,_,_,_,_,_,_,_] #[_,_,_,_,_,_,_,_,_,_,_,_,_] rfl rfl rfl rfl rfl ?_
 refine Wn ?_
 refine Vd ?_
 refine J1 ?_
 refine E3 ?_
 exact KV.join (b5) (sb rfl) (fun _ h=>h)
 refine Ya (fun b5=>?_)
 refine Wn ?_
 refine V1 14 ?_
 refine Yp rfl (Rl.mod_fn (ds.getD i pdK.d).ws 5 (by decide) (by decide)) ?_
 refine Wn ?_
 refine V1 20 ?_
 refine Yp rfl (Rl.mod_fn (ds.getD i pdK.d).wd 4 (by decide) (by decide)) ?_
 refine Wn ?_
 refine Wt 21 rfl (Step.build rfl (Bd36_0_4_3 _ _ _)) ?_
 refine V1 23 ?_
 refine Yw 2 [_,_,_,_,_,_,_,_,_,_,_,_,_] #[_,_,_,_,_,_,_,_,_,_,_,_,_] rfl rfl rfl rfl rfl ?_
 refine Wn ?_
 refine Vd ?_
 refine J1 ?_
 refine E3 ?_
 exact KV.join (b5) (sb rfl) (fun _ h=>h)
 refine Ya (fun b5=>?_)
 refine Wn ?_
 refine V1 7 ?_
 refine Yp rfl (Rl.mod_fn (ds.getD i pdK.d).par (i+1) (by omega) (by omega)) ?_
 refine Wn ?_
 refine W 8 ?_
 refine V1 14 ?_
 refine Yp rfl (Rl.mod_fn (ds.getD i pdK.d).ws 5 (by decide) (by decide)) ?_
 refine Wn ?_
 refine V1 20 ?_
 refine Yp rfl (Rl.mod_fn (ds.getD i pdK.d).wd 4 (by decide) (by decide)) ?_
 refine Wn ?_
 refine Wt 21 rfl (Step.build rfl (Bd36_0_4_3 _ _ _)) ?_
 refine V1 23 ?_
 refine Yw 2 [_,_,_,_,_,_,_,_,_,_,_,_,_] #[_,_,_,_,_,_,_,_,_,_,_,_,_] rfl rfl rfl rfl rfl ?_
 refine Wn ?_
 refine Vd ?_
 refine J1 ?_
 refine E3 ?_
 exact KV.join (b5) (sb rfl) (fun _ h=>h)
 intro b5
 refine J2 ?_
 refine KV.heap (fun w h=>nilPd (X:=[_,_,_]) h (modM (ds.getD i pdK.d).par (i+1)-1) (modM (ds.getD i pdK.d).wd 4) (modM (ds.getD i pdK.d).ws 5)) ?_
 refine J5 ?_
 refine E4 ?_
 refine CV.loop2 (fun(k:Nat) (x:PDv)=>k≤4∧SmA x i m∧DpA x 1) (fun(k:Nat) (x:PDv)=>4-k) (fun(k:Nat) (x:PDv)=>[(0,.slice A ds.length c),(1,.int .i64 m),(5,.slice z.A z.es.length z.c),(6,.int .i64 i),(7,.pointer (some ⟨b5,0,none⟩)),(8,.int .i64 k)]) (fun(k:Nat) (x:PDv)=>Hp I w [OS 36 pdK z.A z.c z.es,Big pdF z.es,Blk b5 (.cells (pdC x).toArray 36 (0,0)),pdF x]) (0) (⟨modM (ds.getD i pdK.d).par (i+1)-1,hd0,hd0,hd0,hd0,0,0,0,0,0,0,modM (ds.getD i pdK.d).wd 4,modM (ds.getD i pdK.d).ws 5⟩) ⟨Nat.zero_le _,SmA.base (modM_lt _ (by omega)) (modM_lt _ (by decide)) (modM_lt _ (by decide)),DpA.base⟩ (sb rfl) (fun _ h=>h) ?_
 intro k x hinv2
 refine J4 ?_
 refine Jlt rfl rfl (fun cc3=>?_) (fun cc3=>?_)
 refine J2 ?_
 refine Jgt rfl rfl (fun cc4=>?_) (fun cc4=>?_)
 refine J8 ?_
 have hi9:i<ds.length:=by omega
 refine J7 ?_
 refine Jr (Step.idxArr Tryz.underlying33 I32.h rfl rfl _ rfl (by omega)) ?_
 refine Jr (Tc rfl (fun w h=>(h.rs hr (fun _=>hI _)).cellAt i (0+1+k* 1) (by omega) (by show of A+i* 13+1+k* 1=of A+i* 13+(0+1+k* 1);omega) (pd_rl _ (by omega)))) ?_
 refine J1 ?_
 refine RV.op (Yc [] (F:=[_,_,_,_]) rfl rfl (fun w h=>ascL_fn m (h.rs (hds i (by omega) k (by omega)) (fun _=>hI _)) rfl (hsm i (by omega) k (by omega)) hm) (fun v L' hp=>?_))
 obtain⟨A3,c3,ys,rfl,rfl,hy1,hy2,hy3⟩:=hp
 refine J1 ?_
 refine Jr (Step.idxArr Tryz.underlying33 I32.h rfl rfl _ rfl (by omega)) ?_
 refine RV.op (OV.store 2 [.slice A3 ys.length c3] (pdC (x.setR k ⟨A3,c3,ys⟩)).toArray I32.h rfl rfl rfl rfl rfl (by show 0+1+k* 1+1≤13;omega) (by simp[Value.oneCell']) (pd_store x ⟨A3,c3,ys⟩ (by omega)) gno ?_)
 refine E5 ?_
 refine KV.heap (fun w h=>pdSwap (e:=x) (k:=k) (X:=[_,_,_]) (h':=⟨A3,c3,ys⟩) (by omega) h) ?_
 refine J9 ?_
 refine E4 ?_
 exact KV.loop2 (x:=k) (y:=x) (k+1) ((x.setR k ⟨A3,c3,ys⟩)) ⟨by omega,hinv2.2.1.setR (by omega) A3 c3 hy1 hy2 hy3,DpA.setR hinv2.2.2 (by omega) _⟩ (by omega) (sb rfl) (fun _ h=>h)
 refine J15 ?_
 refine J1 ?_
 refine E4 ?_
 refine CV.loop2 (fun(k:Nat) (x:PDv)=>(1≤k∧k≤6)∧SmA x i m∧DpA x k) (fun(k:Nat) (x:PDv)=>6-k) (fun(k:Nat) (x:PDv)=>[(0,.slice A ds.length c),(1,.int .i64 m),(5,.slice z.A z.es.length z.c),(6,.int .i64 i),(7,.pointer (some ⟨b5,0,none⟩)),(9,.int .i64 k)]) (fun(k:Nat) (x:PDv)=>Hp I w [OS 36 pdK z.A z.c z.es,Big pdF z.es,Blk b5 (.cells (pdC x).toArray 36 (0,0)),pdF x]) (1) (x) ⟨⟨Nat.le_refl _,by decide⟩,hinv2.2⟩ (sb rfl) (fun _ h=>h) ?_
 intro k x hinv2
 refine J4 ?_
 refine Jlt rfl rfl (fun cc5=>?_) (fun cc5=>?_)
 refine J7 ?_
 have hi9:i<ds.length:=by omega
 refine An (Hp I w []) 18 ?_
 refine W 0 ?_
 refine W 1 ?_
 refine W 2 ?_
 refine W 3 ?_
 refine Wt 4 rfl (Step.idxArr Tryz.underlying34 I3.h rfl rfl _ (show(k:Int)-1=((k-1:Nat):Int) by omega) (by omega)) ?_
 refine W 6 ?_
 refine W 7 ?_
 refine W 8 ?_
 refine W 9 ?_
 refine W 10 ?_
 refine Wt 11 rfl (Step.idxArr Tryz.underlying34 I3.h rfl rfl _ rfl (by omega)) ?_
 refine Wt 12 rfl (Tc rfl (fun w h=>(h.rs hr (fun _=>hI _)).cellAt i (0+5+k* 1) (by omega) (by show of A+i* 13+5+k* 1=of A+i* 13+(0+5+k* 1);omega) (pd_dp _ (by omega)))) ?_
 refine W 15 ?_
 refine V2 5 13 ?_ ?_
 refine OV.step gno (Tc rfl (fun w h=>h.cell 2 rfl (pd_dp x (k:=k-1) (by omega)))) rfl ?_
 refine Wn ?_
 refine V1 13 ?_
 refine Yp rfl (Rl.mod_fn ((ds.getD i pdK.d).dp k) 5 (by decide) (by decide)) ?_
 refine Wn ?_
 refine Wt 14 rfl (Step.max2 rfl rfl) ?_
 refine Wt 16 rfl (Step.idxArr Tryz.underlying34 I3.h rfl rfl _ rfl (by omega)) ?_
 refine V1 17 ?_
 refine OV.store 2 [.int .i64 (max (x.dp (k-1)) (modM ((ds.getD i pdK.d).dp k) 5))] (pdC (x.setD k (max (x.dp (k-1)) (modM ((ds.getD i pdK.d).dp k) 5)))).toArray I3.h rfl rfl rfl rfl rfl (by show 0+5+k* 1+1≤13;omega) (by simp[Value.oneCell']) (pd_storeD x _ (by omega)) gno ?_
 refine Wn ?_
 refine Vd ?_
 refine J8 ?_
 refine E4 ?_
 exact KV.loop2 (x:=k) (y:=x) (k+1) ((x.setD k (max (x.dp (k-1)) (modM ((ds.getD i pdK.d).dp k) 5)))) ⟨⟨by omega,by omega⟩,hinv2.2.1.setD (by omega) (by omega) _,hinv2.2.2.step (by omega) (by omega) (modM_lt _ (by decide)).1 (by have:=(modM_lt ((ds.getD i pdK.d).dp k) (n:=5) (by decide)).2;omega)⟩ (by omega) (sb rfl) (fun _ h=>by rw[rls_setD];exact h)
 refine Yp rfl (Rl.mod_fn ((ds.getD i pdK.d).dp k) 5 (by decide) (by decide)) ?_
 refine Wn ?_
 refine V1 5 ?_
 refine OV.step gno (Tc rfl (fun w h=>h.cell 2 rfl (pd_dp x (k:=k-1) (by omega)))) rfl ?_
 refine Wn ?_
 refine Wt 14 rfl (Step.max2 rfl rfl) ?_
 refine Wt 16 rfl (Step.idxArr Tryz.underlying34 I3.h rfl rfl _ rfl (by omega)) ?_
 refine V1 17 ?_
 refine OV.store 2 [.int .i64 (max (x.dp (k-1)) (modM ((ds.getD i pdK.d).dp k) 5))] (pdC (x.setD k (max (x.dp (k-1)) (modM ((ds.getD i pdK.d).dp k) 5)))).toArray I3.h rfl rfl rfl rfl rfl (by show 0+5+k* 1+1≤13;omega) (by simp[Value.oneCell']) (pd_storeD x _ (by omega)) gno ?_
 refine Wn ?_
 refine Vd ?_
 refine J8 ?_
 refine E4 ?_
 exact KV.loop2 (x:=k) (y:=x) (k+1) ((x.setD k (max (x.dp (k-1)) (modM ((ds.getD i pdK.d).dp k) 5)))) ⟨⟨by omega,by omega⟩,hinv2.2.1.setD (by omega) (by omega) _,hinv2.2.2.step (by omega) (by omega) (modM_lt _ (by decide)).1 (by have:=(modM_lt ((ds.getD i pdK.d).dp k) (n:=5) (by decide)).2;omega)⟩ (by omega) (sb rfl) (fun _ h=>by rw[rls_setD];exact h)
 refine J8 ?_
 obtain rfl:k=6:=by omega
 refine J3 ?_
 refine RV.op (OV.buildSlice (K:=pdK) ([x]) rfl (Bs97_1_0 _ _ _ _ _ _ _ _ _ _ _ _ _) rfl rfl (by omega) gno rfl (fun b14_2=>?_))
 refine RV.op (Ye 0 rfl rfl rfl rfl rfl (fun w h=>h.os 4 rfl) (by have:=hinv.1.2;simp only[List.length_cons,List.length_nil];omega) (fun A4 c4=>?_))
 refine E4 ?_
 refine KV.heap (fun w h=>Hp.bigSnoc (L:=[_,_,_]) (F:=pdF) (h':=x) (k:=1) h rfl) ?_
 refine J10 ?_
 refine E2 ?_
 exact KV.loop2 (x:=i) (y:=z) (i+1) (⟨A4,c4,z.es++[x]⟩) ⟨⟨⟨by omega,by omega⟩,by rw[List.length_append,List.length_singleton,hinv.1.2]⟩,snoc_all (P:=fun j e=>SmA e j m∧DpA e 6) hinv.1.2 hinv.2 ⟨hinv2.2.1,hinv2.2.2⟩⟩ (by omega) (sb rfl) (fun _ h=>h)
 refine J15 ?_
 refine J4 ?_
 refine E4 ?_
 refine CV.loop2 (fun(k:Nat) (x:PDv)=>(1≤k∧k≤6)∧SmA x i m∧DpA x k) (fun(k:Nat) (x:PDv)=>6-k) (fun(k:Nat) (x:PDv)=>[(0,.slice A ds.length c),(1,.int .i64 m),(5,.slice z.A z.es.length z.c),(6,.int .i64 i),(7,.pointer (some ⟨b5,0,none⟩)),(9,.int .i64 k)]) (fun(k:Nat) (x:PDv)=>Hp I w [OS 36 pdK z.A z.c z.es,Big pdF z.es,Blk b5 (.cells (pdC x).toArray 36 (0,0)),pdF x]) (1) (x) ⟨⟨Nat.le_refl _,by decide⟩,hinv2.2⟩ (sb rfl) (fun _ h=>h) ?_
 intro k x hinv2
 refine J4 ?_
 refine Jlt rfl rfl (fun cc6=>?_) (fun cc6=>?_)
 refine J7 ?_
 have hi9:i<ds.length:=by omega
 refine An (Hp I w []) 18 ?_
 refine W 0 ?_
 refine W 1 ?_
 refine W 2 ?_
 refine W 3 ?_
 refine Wt 4 rfl (Step.idxArr Tryz.underlying34 I3.h rfl rfl _ (show(k:Int)-1=((k-1:Nat):Int) by omega) (by omega)) ?_
 refine W 6 ?_
 refine W 7 ?_
 refine W 8 ?_
 refine W 9 ?_
 refine W 10 ?_
 refine Wt 11 rfl (Step.idxArr Tryz.underlying34 I3.h rfl rfl _ rfl (by omega)) ?_
 refine Wt 12 rfl (Tc rfl (fun w h=>(h.rs hr (fun _=>hI _)).cellAt i (0+5+k* 1) (by omega) (by show of A+i* 13+5+k* 1=of A+i* 13+(0+5+k* 1);omega) (pd_dp _ (by omega)))) ?_
 refine W 15 ?_
 refine V2 5 13 ?_ ?_
 refine OV.step gno (Tc rfl (fun w h=>h.cell 2 rfl (pd_dp x (k:=k-1) (by omega)))) rfl ?_
 refine Wn ?_
 refine V1 13 ?_
 refine Yp rfl (Rl.mod_fn ((ds.getD i pdK.d).dp k) 5 (by decide) (by decide)) ?_
 refine Wn ?_
 refine Wt 14 rfl (Step.max2 rfl rfl) ?_
 refine Wt 16 rfl (Step.idxArr Tryz.underlying34 I3.h rfl rfl _ rfl (by omega)) ?_
 refine V1 17 ?_
 refine OV.store 2 [.int .i64 (max (x.dp (k-1)) (modM ((ds.getD i pdK.d).dp k) 5))] (pdC (x.setD k (max (x.dp (k-1)) (modM ((ds.getD i pdK.d).dp k) 5)))).toArray I3.h rfl rfl rfl rfl rfl (by show 0+5+k* 1+1≤13;omega) (by simp[Value.oneCell']) (pd_storeD x _ (by omega)) gno ?_
 refine Wn ?_
 refine Vd ?_
 refine J8 ?_
 refine E4 ?_
 exact KV.loop2 (x:=k) (y:=x) (k+1) ((x.setD k (max (x.dp (k-1)) (modM ((ds.getD i pdK.d).dp k) 5)))) ⟨⟨by omega,by omega⟩,hinv2.2.1.setD (by omega) (by omega) _,hinv2.2.2.step (by omega) (by omega) (modM_lt _ (by decide)).1 (by have:=(modM_lt ((ds.getD i pdK.d).dp k) (n:=5) (by decide)).2;omega)⟩ (by omega) (sb rfl) (fun _ h=>by rw[rls_setD];exact h)
 refine Yp rfl (Rl.mod_fn ((ds.getD i pdK.d).dp k) 5 (by decide) (by decide)) ?_
 refine Wn ?_
 refine V1 5 ?_
 refine OV.step gno (Tc rfl (fun w h=>h.cell 2 rfl (pd_dp x (k:=k-1) (by omega)))) rfl ?_
 refine Wn ?_
 refine Wt 14 rfl (Step.max2 rfl rfl) ?_
 refine Wt 16 rfl (Step.idxArr Tryz.underlying34 I3.h rfl rfl _ rfl (by omega)) ?_
 refine V1 17 ?_
 refine OV.store 2 [.int .i64 (max (x.dp (k-1)) (modM ((ds.getD i pdK.d).dp k) 5))] (pdC (x.setD k (max (x.dp (k-1)) (modM ((ds.getD i pdK.d).dp k) 5)))).toArray I3.h rfl rfl rfl rfl rfl (by show 0+5+k* 1+1≤13;omega) (by simp[Value.oneCell']) (pd_storeD x _ (by omega)) gno ?_
 refine Wn ?_
 refine Vd ?_
 refine J8 ?_
 refine E4 ?_
 exact KV.loop2 (x:=k) (y:=x) (k+1) ((x.setD k (max (x.dp (k-1)) (modM ((ds.getD i pdK.d).dp k) 5)))) ⟨⟨by omega,by omega⟩,hinv2.2.1.setD (by omega) (by omega) _,hinv2.2.2.step (by omega) (by omega) (modM_lt _ (by decide)).1 (by have:=(modM_lt ((ds.getD i pdK.d).dp k) (n:=5) (by decide)).2;omega)⟩ (by omega) (sb rfl) (fun _ h=>by rw[rls_setD];exact h)
 refine J8 ?_
 obtain rfl:k=6:=by omega
 refine J3 ?_
 refine RV.op (OV.buildSlice (K:=pdK) ([x]) rfl (Bs97_1_0 _ _ _ _ _ _ _ _ _ _ _ _ _) rfl rfl (by omega) gno rfl (fun b14_2=>?_))
 refine RV.op (Ye 0 rfl rfl rfl rfl rfl (fun w h=>h.os 4 rfl) (by have:=hinv.1.2;simp only[List.length_cons,List.length_nil];omega) (fun A4 c4=>?_))
 refine E4 ?_
 refine KV.heap (fun w h=>Hp.bigSnoc (L:=[_,_,_]) (F:=pdF) (h':=x) (k:=1) h rfl) ?_
 refine J10 ?_
 refine E2 ?_
 exact KV.loop2 (x:=i) (y:=z) (i+1) (⟨A4,c4,z.es++[x]⟩) ⟨⟨⟨by omega,by omega⟩,by rw[List.length_append,List.length_singleton,hinv.1.2]⟩,snoc_all (P:=fun j e=>SmA e j m∧DpA e 6) hinv.1.2 hinv.2 ⟨hinv2.2.1,hinv2.2.2⟩⟩ (by omega) (sb rfl) (fun _ h=>h)
 refine J15 ?_
 refine J1 ?_
 refine E2 ?_
 exact Rb rfl rfl ⟨z,rfl,rfl,by omega,by omega,fun j hj=>hinv.2 j (by omega)⟩
 refine J15 ?_
 refine J4 ?_
 refine E2 ?_
 exact Rb rfl rfl ⟨z,rfl,rfl,by omega,by omega,fun j hj=>hinv.2 j (by omega)⟩
end Go.Proofs.YtkofjhglgoojiaaGreatDoor.Pw
