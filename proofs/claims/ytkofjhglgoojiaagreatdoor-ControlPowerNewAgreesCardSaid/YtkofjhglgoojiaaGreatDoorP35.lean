/-
  Joined.
-/
import Derived.Test.YtkofjhglgoojiaaGreatDoorP34
set_option linter.unusedSimpArgs false
set_option linter.unusedVariables false
namespace Go.Proofs.YtkofjhglgoojiaaGreatDoor.Is
set_option maxRecDepth 100000
set_option maxHeartbeats 20000000
open Go.Tk Go.Sv Go.Ios
attribute [local irreducible] KV SV OV Step Code.wp wpList Exit.then Exit.inBlock Blk OS Big Bun
theorem map_fn (b:Nat) (s:BS) {w:World} (hk:s.ok) (z p0 q0 o:Int) (hp0:isU p0):Fx Tryz.prog 30 [.pointer (some ⟨b,0,none⟩),.int .i64 z,.agg #[.int .u64 p0,.int .u64 q0],.int .i64 o] w (busL b s) no (fun r L=>(¬((0≤z∧z<3)∧okR p0 q0∧0≤o∧o<256)→r= .int .i64 1∧L=busL b s)∧ ∀m:Nat,z=m→(0≤z∧z<3)∧okR p0 q0∧0≤o∧o<256→(busy (s.sp m).hs p0 q0→r= .int .i64 17∧L=busL b s)∧(¬busy (s.sp m).hs p0 q0→(s.total=256→r= .int .i64 8∧L=busL b s)∧(s.total≠256→r= .int .i64 0∧ ∃bp A c,L=busL b (mapG s m ⟨bp,p0,q0,o,none,0,[]⟩ A c)))):=by
 refine Fb ?_
 intro I hro hI
 have hw:=hk.wf
 have hw3:=hw.sp
 refine J2 ?_
 refine RV.op (Yb #[_,_] rfl rfl (fun b0_0=>?_))
 refine J7 ?_
 refine RV.op (Yc [] rfl rfl (fun w h=>(validSpace_fn z).fn w) (fun v L' hp=>?_))
 obtain⟨rfl,rfl⟩:=hp
 by_cases hz:0≤z∧z<3
 rw[decide_eq_true hz]
 obtain⟨m,rfl⟩:=Int.eq_ofNat_of_zero_le hz.1
 have hm:m<3:=by omega
 have hlm:=hk.len hm
 have hsp:=aft_spec (s.sp m).hs p0
 have hso:=hk.sp m hm
 refine J3 ?_
 refine RV.op (Yc [] (F:=[_,_,_,_,_]) rfl rfl (fun w h=>validRange_fn p0 q0 hp0) (fun v L' hp=>?_))
 obtain⟨rfl,rfl⟩:=hp
 by_cases hr:okR p0 q0
 rw[decide_eq_true hr]
 refine J4 ?_
 refine RV.op (Yc [] rfl rfl (fun w h=>(validOwner_fn o).fn w) (fun v L' hp=>?_))
 obtain⟨rfl,rfl⟩:=hp
 by_cases ho:0≤o∧o<256
 rw[decide_eq_true ho]
 refine J13 ?_
 refine RV.op (Yc [0,0,0,0] (F:=[_]) rfl rfl (fun w h=>after_fn b s hk hm p0) (fun v L' hp=>?_))
 obtain⟨rfl,rfl⟩:=hp
 refine J5 ?_
 refine K5 [1,1,1,1,0] rfl ?_
 refine An (Hp I w (busL b s++[Blk b0_0 (.cells #[.int .u64 p0,.int .u64 q0] 119 (0,0))])) 25 ?_
 refine W 0 ?_
 refine W 1 ?_
 refine W 2 ?_
 refine W 3 ?_
 refine W 4 ?_
 refine Wt 5 rfl (Step.idxArr Tryz.underlying103 I102.h rfl rfl _ rfl (by first|omega|(rw[List.length_map];omega))) ?_
 refine Wt 6 rfl (Tc rfl (fun w h=>h.cell 0 rfl (busC_sp hw hm))) ?_
 refine W 7 ?_
 refine W 8 ?_
 refine W 9 ?_
 refine KV.cases 37 rfl (fun cc1=>?_) (fun cc1=>?_)
 have ha:(aftM (s.sp m).hs p0)<(s.sp m).hs.length:=by have:=of_decide_eq_true cc1;omega
 refine W 10 ?_
 refine W 11 ?_
 refine W 12 ?_
 refine W 13 ?_
 refine Wt 14 rfl (Step.idxArr Tryz.underlying103 I102.h rfl rfl _ rfl (by first|omega|(rw[List.length_map];omega))) ?_
 refine Wt 15 rfl (Tc rfl (fun w h=>h.cell 0 rfl (busC_sp hw hm))) ?_
 refine W 16 ?_
 refine Wt 17 rfl (Ti (fun w h=>(show SpR w (s.sp m) from Hp.spr h (k:=1) rfl (m:=m) (by omega)).1) rfl rfl ((List.length_map _).symm) _ rfl (by first|omega|(rw[List.length_map];omega))) ?_
 refine Wt 18 rfl (Tc rfl (fun w h=>(show SpR w (s.sp m) from Hp.spr h (k:=1) rfl (m:=m) (by omega)).ptr ha)) ?_
 refine W 19 ?_
 refine W 20 ?_
 refine Wt 21 rfl (Tw rfl (fun w h=>((show SpR w (s.sp m) from Hp.spr h (k:=1) rfl (m:=m) (by omega)).2 (aftM (s.sp m).hs p0) ha).rng)) ?_
 refine W 22 ?_
 refine V1 23 ?_
 refine Yc [] (F:=[_,_,_,_,_]) rfl rfl (fun w h=>overlap_fn (hso.each _ ha).b (hso.each _ ha).r hp0 hr) (fun v L' hp=>?_)
 obtain⟨rfl,rfl⟩:=hp
 refine Wn ?_
 refine W 24 ?_
 refine Vd ?_
 refine J1 ?_
 refine KV.cases 52 rfl (fun cc2=>?_) (fun cc2=>?_)
 refine J8 ?_
 refine E4 ?_
 have hgd:((0≤(m:Int)∧(m:Int)<3)∧okR p0 q0∧0≤o∧o<256):=⟨hz,hr,ho⟩
 have hbu:busy (s.sp m).hs p0 q0:=⟨ha,of_decide_eq_true (by assumption)⟩
 refine KV.ret1 rfl rfl _ (fun _ h=>h) ⟨fun h=>absurd hgd h,fun m2 e2 _=>?_⟩
 obtain rfl:m=m2:=by omega
 exact⟨fun _=>⟨rfl,rfl⟩,fun h=>absurd hbu h⟩
 refine J7 ?_
 refine Jp rfl ?_
 refine J1 ?_
 refine Jr (Tc rfl (fun w h=>h.cell 0 rfl (busC_tot hw))) ?_
 refine Jeq rfl rfl (fun ht=>?_) (fun ht=>?_)
 refine J10 ?_
 refine E4 ?_
 have hgd:((0≤(m:Int)∧(m:Int)<3)∧okR p0 q0∧0≤o∧o<256):=⟨hz,hr,ho⟩
 have hbu: ¬busy (s.sp m).hs p0 q0:=fun k=>by first|exact ha k.1|exact absurd k.2 (of_decide_eq_false (by assumption))
 refine KV.ret1 rfl rfl _ (fun _ h=>h) ⟨fun h=>absurd hgd h,fun m2 e2 _=>?_⟩
 obtain rfl:m=m2:=by omega
 exact⟨fun h=>absurd h hbu,fun _=>⟨fun _=>⟨rfl,rfl⟩,fun h=>absurd ht h⟩⟩
 refine J5 ?_
 refine CV.join3 (fun(A2:Option Addr) (c2:Nat) (bp:Nat)=>[(0,.pointer (some ⟨b,0,none⟩))]) (fun(A2:Option Addr) (c2:Nat) (bp:Nat)=>Hp I w (busL b {s with sps:=s.sps.set m ⟨A2,c2,insL (s.sp m).hs (aftM (s.sp m).hs p0) ⟨bp,p0,q0,o,none,0,[]⟩⟩})) ?_ ?_
 refine E5 ?_
 refine KV.heap (fun w h=>openSp h (m:=m) (by omega)) ?_
 refine An (Hp I w [Blk b0_0 (.cells #[.int .u64 p0,.int .u64 q0] 119 (0,0))]) 19 ?_
 refine W 0 ?_
 refine W 1 ?_
 refine W 2 ?_
 refine W 3 ?_
 refine W 4 ?_
 refine W 5 ?_
 refine Wt 6 rfl (Step.idxArr Tryz.underlying103 I102.h rfl rfl _ rfl (by first|omega|(rw[List.length_map];omega))) ?_
 refine W 8 ?_
 refine W 9 ?_
 refine W 10 ?_
 refine Wt 11 rfl (Step.build rfl (Bd210_0_1 _ _ _)) ?_
 refine W 15 ?_
 refine W 16 ?_
 refine V2 7 12 ?_ ?_
 refine OV.step gno (Tc rfl (fun w h=>h.cell 0 rfl (busC_sp hw hm))) rfl ?_
 refine Wn ?_
 refine V1 12 ?_
 refine Yb #[_,_,_,_] rfl rfl (fun bp=>?_)
 refine Wn ?_
 refine V1 13 ?_
 refine OV.buildSlice (K:=ptrK) ([some bp]) rfl (Bs102_1_0 _) rfl rfl (by omega) gno rfl (fun By=>?_)
 refine Wn ?_
 refine V1 14 ?_
 refine Yc [1,7] (F:=[_,_,_,_,_,_,_]) rfl rfl (fun w h=>insert_fn (ps:=(s.sp m).hs.map fun h=>some h.p) (i:=(aftM (s.sp m).hs p0)) (List.length_map _).symm (by rw[List.length_map];exact hsp.1) (by rw[List.length_map];omega)) (fun v L' hp=>?_)
 obtain⟨A2,c2,rfl,rfl⟩:=hp
 rw[List.length_map,show(s.sp m).hs.length+1=(insL (s.sp m).hs (aftM (s.sp m).hs p0) (⟨bp,p0,q0,o,none,0,[]⟩:MH)).length from(insL_length _ hsp.1).symm]
 refine Wn ?_
 refine Wt 17 rfl (Step.idxArr Tryz.underlying103 I102.h rfl rfl _ rfl (by first|omega|(rw[List.length_map];omega))) ?_
 refine V1 18 ?_
 refine OV.store 0 [_] (busC {s with sps:=s.sps.set m ⟨A2,c2,insL (s.sp m).hs (aftM (s.sp m).hs p0) ⟨bp,p0,q0,o,none,0,[]⟩⟩}).toArray I102.h rfl rfl rfl rfl rfl (by show _+1≤(busC _).toArray.size;rw[List.size_toArray,busC_len hw];omega) (by simp[Value.oneCell']) (set_of hw (by omega) (set_sp hw hm ⟨A2,c2,insL (s.sp m).hs (aftM (s.sp m).hs p0) ⟨bp,p0,q0,o,none,0,[]⟩⟩)) gno ?_
 refine Wn ?_
 refine Vd ?_
 refine J1 ?_
 refine K7 [0,6,0,0,0,0,1] rfl ?_
 exact KV.join3 (A2) (c2) (bp) ⟨rfl,trivial⟩ (fun _ h=>mapClose hw3 hm h)
 refine Yb #[_,_,_,_] rfl rfl (fun bp=>?_)
 refine Wn ?_
 refine V2 7 13 ?_ ?_
 refine OV.step gno (Tc rfl (fun w h=>h.cell 0 rfl (busC_sp hw hm))) rfl ?_
 refine Wn ?_
 refine V1 13 ?_
 refine OV.buildSlice (K:=ptrK) ([some bp]) rfl (Bs102_1_0 _) rfl rfl (by omega) gno rfl (fun By=>?_)
 refine Wn ?_
 refine V1 14 ?_
 refine Yc [1,7] (F:=[_,_,_,_,_,_,_]) rfl rfl (fun w h=>insert_fn (ps:=(s.sp m).hs.map fun h=>some h.p) (i:=(aftM (s.sp m).hs p0)) (List.length_map _).symm (by rw[List.length_map];exact hsp.1) (by rw[List.length_map];omega)) (fun v L' hp=>?_)
 obtain⟨A2,c2,rfl,rfl⟩:=hp
 rw[List.length_map,show(s.sp m).hs.length+1=(insL (s.sp m).hs (aftM (s.sp m).hs p0) (⟨bp,p0,q0,o,none,0,[]⟩:MH)).length from(insL_length _ hsp.1).symm]
 refine Wn ?_
 refine Wt 17 rfl (Step.idxArr Tryz.underlying103 I102.h rfl rfl _ rfl (by first|omega|(rw[List.length_map];omega))) ?_
 refine V1 18 ?_
 refine OV.store 0 [_] (busC {s with sps:=s.sps.set m ⟨A2,c2,insL (s.sp m).hs (aftM (s.sp m).hs p0) ⟨bp,p0,q0,o,none,0,[]⟩⟩}).toArray I102.h rfl rfl rfl rfl rfl (by show _+1≤(busC _).toArray.size;rw[List.size_toArray,busC_len hw];omega) (by simp[Value.oneCell']) (set_of hw (by omega) (set_sp hw hm ⟨A2,c2,insL (s.sp m).hs (aftM (s.sp m).hs p0) ⟨bp,p0,q0,o,none,0,[]⟩⟩)) gno ?_
 refine Wn ?_
 refine Vd ?_
 refine J1 ?_
 refine K7 [0,6,0,0,0,0,1] rfl ?_
 exact KV.join3 (A2) (c2) (bp) ⟨rfl,trivial⟩ (fun _ h=>mapClose hw3 hm h)
 refine OV.buildSlice (K:=ptrK) ([some bp]) rfl (Bs102_1_0 _) rfl rfl (by omega) gno rfl (fun By=>?_)
 refine Wn ?_
 refine V1 7 ?_
 refine OV.step gno (Tc rfl (fun w h=>h.cell 0 rfl (busC_sp hw hm))) rfl ?_
 refine Wn ?_
 refine V1 14 ?_
 refine Yc [1,7] (F:=[_,_,_,_,_,_,_]) rfl rfl (fun w h=>insert_fn (ps:=(s.sp m).hs.map fun h=>some h.p) (i:=(aftM (s.sp m).hs p0)) (List.length_map _).symm (by rw[List.length_map];exact hsp.1) (by rw[List.length_map];omega)) (fun v L' hp=>?_)
 obtain⟨A2,c2,rfl,rfl⟩:=hp
 rw[List.length_map,show(s.sp m).hs.length+1=(insL (s.sp m).hs (aftM (s.sp m).hs p0) (⟨bp,p0,q0,o,none,0,[]⟩:MH)).length from(insL_length _ hsp.1).symm]
 refine Wn ?_
 refine Wt 17 rfl (Step.idxArr Tryz.underlying103 I102.h rfl rfl _ rfl (by first|omega|(rw[List.length_map];omega))) ?_
 refine V1 18 ?_
 refine OV.store 0 [_] (busC {s with sps:=s.sps.set m ⟨A2,c2,insL (s.sp m).hs (aftM (s.sp m).hs p0) ⟨bp,p0,q0,o,none,0,[]⟩⟩}).toArray I102.h rfl rfl rfl rfl rfl (by show _+1≤(busC _).toArray.size;rw[List.size_toArray,busC_len hw];omega) (by simp[Value.oneCell']) (set_of hw (by omega) (set_sp hw hm ⟨A2,c2,insL (s.sp m).hs (aftM (s.sp m).hs p0) ⟨bp,p0,q0,o,none,0,[]⟩⟩)) gno ?_
 refine Wn ?_
 refine Vd ?_
 refine J1 ?_
 refine K7 [0,6,0,0,0,0,1] rfl ?_
 exact KV.join3 (A2) (c2) (bp) ⟨rfl,trivial⟩ (fun _ h=>mapClose hw3 hm h)
 intro A2 c2 bp
 have hw1:BS.wf ({s with sps:=s.sps.set m ⟨A2,c2,insL (s.sp m).hs (aftM (s.sp m).hs p0) ⟨bp,p0,q0,o,none,0,[]⟩⟩}:BS):=⟨by show(s.sps.set m _).length=3;rw[List.length_set];exact hw3,hw.en⟩
 refine J3 ?_
 refine Jp rfl ?_
 refine J1 ?_
 refine Jr (Tc rfl (fun w h=>h.cell 0 rfl (busC_tot hw1))) ?_
 refine Jr (Step.add rfl rfl (wI64 (by have:=hk.tot;have:=hk.max;show _≤s.total+1;omega) (by have:=hk.tot;have:=hk.max;show s.total+1≤_;omega))) ?_
 refine Jp rfl ?_
 refine J1 ?_
 refine RV.op (OV.store 0 [_] (busC (mapG s m ⟨bp,p0,q0,o,none,0,[]⟩ A2 c2)).toArray I3.h rfl rfl rfl rfl rfl (by show _+1≤(busC _).toArray.size;rw[List.size_toArray,busC_len hw1];omega) (by simp[Value.oneCell']) (set_of hw1 (by omega) (set_tot hw1 _)) gno ?_)
 refine J8 ?_
 refine E4 ?_
 have hgd:((0≤(m:Int)∧(m:Int)<3)∧okR p0 q0∧0≤o∧o<256):=⟨hz,hr,ho⟩
 have hbu: ¬busy (s.sp m).hs p0 q0:=fun k=>by first|exact ha k.1|exact absurd k.2 (of_decide_eq_false (by assumption))
 refine KV.ret1 rfl rfl _ (fun _ h=>h) ⟨fun h=>absurd hgd h,fun m2 e2 _=>?_⟩
 obtain rfl:m=m2:=by omega
 exact⟨fun h=>absurd h hbu,fun _=>⟨fun h=>absurd h ht,fun _=>⟨rfl,_,_,_,rfl⟩⟩⟩
 have ha: ¬(aftM (s.sp m).hs p0)<(s.sp m).hs.length:=by have:=of_decide_eq_false cc1;omega
 refine Wk 10 ?_
 refine Wk 11 ?_
 refine Wk 12 ?_
 refine Wk 13 ?_
 refine Wk 14 ?_
 refine Wk 15 ?_
 refine Wk 16 ?_
 refine Wk 17 ?_
 refine Wk 18 ?_
 refine Wk 19 ?_
 refine Wk 20 ?_
 refine Wk 21 ?_
 refine Wk 22 ?_
 refine Wk 23 ?_
 refine W 24 ?_
 refine Vd ?_
 refine J8 ?_
 refine Jp rfl ?_
 refine J1 ?_
 refine Jr (Tc rfl (fun w h=>h.cell 0 rfl (busC_tot hw))) ?_
 refine Jeq rfl rfl (fun ht=>?_) (fun ht=>?_)
 refine J10 ?_
 refine E4 ?_
 have hgd:((0≤(m:Int)∧(m:Int)<3)∧okR p0 q0∧0≤o∧o<256):=⟨hz,hr,ho⟩
 have hbu: ¬busy (s.sp m).hs p0 q0:=fun k=>by first|exact ha k.1|exact absurd k.2 (of_decide_eq_false (by assumption))
 refine KV.ret1 rfl rfl _ (fun _ h=>h) ⟨fun h=>absurd hgd h,fun m2 e2 _=>?_⟩
 obtain rfl:m=m2:=by omega
 exact⟨fun h=>absurd h hbu,fun _=>⟨fun _=>⟨rfl,rfl⟩,fun h=>absurd ht h⟩⟩
 refine J5 ?_
 refine CV.join3 (fun(A2:Option Addr) (c2:Nat) (bp:Nat)=>[(0,.pointer (some ⟨b,0,none⟩))]) (fun(A2:Option Addr) (c2:Nat) (bp:Nat)=>Hp I w (busL b {s with sps:=s.sps.set m ⟨A2,c2,insL (s.sp m).hs (aftM (s.sp m).hs p0) ⟨bp,p0,q0,o,none,0,[]⟩⟩})) ?_ ?_
 refine E5 ?_
 refine KV.heap (fun w h=>openSp h (m:=m) (by omega)) ?_
 refine An (Hp I w [Blk b0_0 (.cells #[.int .u64 p0,.int .u64 q0] 119 (0,0))]) 19 ?_
 refine W 0 ?_
 refine W 1 ?_
 refine W 2 ?_
 refine W 3 ?_
 refine W 4 ?_
 refine W 5 ?_
 refine Wt 6 rfl (Step.idxArr Tryz.underlying103 I102.h rfl rfl _ rfl (by first|omega|(rw[List.length_map];omega))) ?_
 refine W 8 ?_
 refine W 9 ?_
 refine W 10 ?_
 refine Wt 11 rfl (Step.build rfl (Bd210_0_1 _ _ _)) ?_
 refine W 15 ?_
 refine W 16 ?_
 refine V2 7 12 ?_ ?_
 refine OV.step gno (Tc rfl (fun w h=>h.cell 0 rfl (busC_sp hw hm))) rfl ?_
 refine Wn ?_
 refine V1 12 ?_
 refine Yb #[_,_,_,_] rfl rfl (fun bp=>?_)
 refine Wn ?_
 refine V1 13 ?_
 refine OV.buildSlice (K:=ptrK) ([some bp]) rfl (Bs102_1_0 _) rfl rfl (by omega) gno rfl (fun By=>?_)
 refine Wn ?_
 refine V1 14 ?_
 refine Yc [1,7] (F:=[_,_,_,_,_,_,_]) rfl rfl (fun w h=>insert_fn (ps:=(s.sp m).hs.map fun h=>some h.p) (i:=(aftM (s.sp m).hs p0)) (List.length_map _).symm (by rw[List.length_map];exact hsp.1) (by rw[List.length_map];omega)) (fun v L' hp=>?_)
 obtain⟨A2,c2,rfl,rfl⟩:=hp
 rw[List.length_map,show(s.sp m).hs.length+1=(insL (s.sp m).hs (aftM (s.sp m).hs p0) (⟨bp,p0,q0,o,none,0,[]⟩:MH)).length from(insL_length _ hsp.1).symm]
 refine Wn ?_
 refine Wt 17 rfl (Step.idxArr Tryz.underlying103 I102.h rfl rfl _ rfl (by first|omega|(rw[List.length_map];omega))) ?_
 refine V1 18 ?_
 refine OV.store 0 [_] (busC {s with sps:=s.sps.set m ⟨A2,c2,insL (s.sp m).hs (aftM (s.sp m).hs p0) ⟨bp,p0,q0,o,none,0,[]⟩⟩}).toArray I102.h rfl rfl rfl rfl rfl (by show _+1≤(busC _).toArray.size;rw[List.size_toArray,busC_len hw];omega) (by simp[Value.oneCell']) (set_of hw (by omega) (set_sp hw hm ⟨A2,c2,insL (s.sp m).hs (aftM (s.sp m).hs p0) ⟨bp,p0,q0,o,none,0,[]⟩⟩)) gno ?_
 refine Wn ?_
 refine Vd ?_
 refine J1 ?_
 refine K7 [0,6,0,0,0,0,1] rfl ?_
 exact KV.join3 (A2) (c2) (bp) ⟨rfl,trivial⟩ (fun _ h=>mapClose hw3 hm h)
 refine Yb #[_,_,_,_] rfl rfl (fun bp=>?_)
 refine Wn ?_
 refine V2 7 13 ?_ ?_
 refine OV.step gno (Tc rfl (fun w h=>h.cell 0 rfl (busC_sp hw hm))) rfl ?_
 refine Wn ?_
 refine V1 13 ?_
 refine OV.buildSlice (K:=ptrK) ([some bp]) rfl (Bs102_1_0 _) rfl rfl (by omega) gno rfl (fun By=>?_)
 refine Wn ?_
 refine V1 14 ?_
 refine Yc [1,7] (F:=[_,_,_,_,_,_,_]) rfl rfl (fun w h=>insert_fn (ps:=(s.sp m).hs.map fun h=>some h.p) (i:=(aftM (s.sp m).hs p0)) (List.length_map _).symm (by rw[List.length_map];exact hsp.1) (by rw[List.length_map];omega)) (fun v L' hp=>?_)
 obtain⟨A2,c2,rfl,rfl⟩:=hp
 rw[List.length_map,show(s.sp m).hs.length+1=(insL (s.sp m).hs (aftM (s.sp m).hs p0) (⟨bp,p0,q0,o,none,0,[]⟩:MH)).length from(insL_length _ hsp.1).symm]
 refine Wn ?_
 refine Wt 17 rfl (Step.idxArr Tryz.underlying103 I102.h rfl rfl _ rfl (by first|omega|(rw[List.length_map];omega))) ?_
 refine V1 18 ?_
 refine OV.store 0 [_] (busC {s with sps:=s.sps.set m ⟨A2,c2,insL (s.sp m).hs (aftM (s.sp m).hs p0) ⟨bp,p0,q0,o,none,0,[]⟩⟩}).toArray I102.h rfl rfl rfl rfl rfl (by show _+1≤(busC _).toArray.size;rw[List.size_toArray,busC_len hw];omega) (by simp[Value.oneCell']) (set_of hw (by omega) (set_sp hw hm ⟨A2,c2,insL (s.sp m).hs (aftM (s.sp m).hs p0) ⟨bp,p0,q0,o,none,0,[]⟩⟩)) gno ?_
 refine Wn ?_
 refine Vd ?_
 refine J1 ?_
 refine K7 [0,6,0,0,0,0,1] rfl ?_
 exact KV.join3 (A2) (c2) (bp) ⟨rfl,trivial⟩ (fun _ h=>mapClose hw3 hm h)
 refine OV.buildSlice (K:=ptrK) ([some bp]) rfl (Bs102_1_0 _) rfl rfl (by omega) gno rfl (fun By=>?_)
 refine Wn ?_
 refine V1 7 ?_
 refine OV.step gno (Tc rfl (fun w h=>h.cell 0 rfl (busC_sp hw hm))) rfl ?_
 refine Wn ?_
 refine V1 14 ?_
 refine Yc [1,7] (F:=[_,_,_,_,_,_,_]) rfl rfl (fun w h=>insert_fn (ps:=(s.sp m).hs.map fun h=>some h.p) (i:=(aftM (s.sp m).hs p0)) (List.length_map _).symm (by rw[List.length_map];exact hsp.1) (by rw[List.length_map];omega)) (fun v L' hp=>?_)
 obtain⟨A2,c2,rfl,rfl⟩:=hp
 rw[List.length_map,show(s.sp m).hs.length+1=(insL (s.sp m).hs (aftM (s.sp m).hs p0) (⟨bp,p0,q0,o,none,0,[]⟩:MH)).length from(insL_length _ hsp.1).symm]
 refine Wn ?_
 refine Wt 17 rfl (Step.idxArr Tryz.underlying103 I102.h rfl rfl _ rfl (by first|omega|(rw[List.length_map];omega))) ?_
 refine V1 18 ?_
 refine OV.store 0 [_] (busC {s with sps:=s.sps.set m ⟨A2,c2,insL (s.sp m).hs (aftM (s.sp m).hs p0) ⟨bp,p0,q0,o,none,0,[]⟩⟩}).toArray I102.h rfl rfl rfl rfl rfl (by show _+1≤(busC _).toArray.size;rw[List.size_toArray,busC_len hw];omega) (by simp[Value.oneCell']) (set_of hw (by omega) (set_sp hw hm ⟨A2,c2,insL (s.sp m).hs (aftM (s.sp m).hs p0) ⟨bp,p0,q0,o,none,0,[]⟩⟩)) gno ?_
 refine Wn ?_
 refine Vd ?_
 refine J1 ?_
 refine K7 [0,6,0,0,0,0,1] rfl ?_
 exact KV.join3 (A2) (c2) (bp) ⟨rfl,trivial⟩ (fun _ h=>mapClose hw3 hm h)
 intro A2 c2 bp
 have hw1:BS.wf ({s with sps:=s.sps.set m ⟨A2,c2,insL (s.sp m).hs (aftM (s.sp m).hs p0) ⟨bp,p0,q0,o,none,0,[]⟩⟩}:BS):=⟨by show(s.sps.set m _).length=3;rw[List.length_set];exact hw3,hw.en⟩
 refine J3 ?_
 refine Jp rfl ?_
 refine J1 ?_
 refine Jr (Tc rfl (fun w h=>h.cell 0 rfl (busC_tot hw1))) ?_
 refine Jr (Step.add rfl rfl (wI64 (by have:=hk.tot;have:=hk.max;show _≤s.total+1;omega) (by have:=hk.tot;have:=hk.max;show s.total+1≤_;omega))) ?_
 refine Jp rfl ?_
 refine J1 ?_
 refine RV.op (OV.store 0 [_] (busC (mapG s m ⟨bp,p0,q0,o,none,0,[]⟩ A2 c2)).toArray I3.h rfl rfl rfl rfl rfl (by show _+1≤(busC _).toArray.size;rw[List.size_toArray,busC_len hw1];omega) (by simp[Value.oneCell']) (set_of hw1 (by omega) (set_tot hw1 _)) gno ?_)
 refine J8 ?_
 refine E4 ?_
 have hgd:((0≤(m:Int)∧(m:Int)<3)∧okR p0 q0∧0≤o∧o<256):=⟨hz,hr,ho⟩
 have hbu: ¬busy (s.sp m).hs p0 q0:=fun k=>by first|exact ha k.1|exact absurd k.2 (of_decide_eq_false (by assumption))
 refine KV.ret1 rfl rfl _ (fun _ h=>h) ⟨fun h=>absurd hgd h,fun m2 e2 _=>?_⟩
 obtain rfl:m=m2:=by omega
 exact⟨fun h=>absurd h hbu,fun _=>⟨fun h=>absurd h ht,fun _=>⟨rfl,_,_,_,rfl⟩⟩⟩
 rw[decide_eq_false ho]
 refine J12 ?_
 refine E4 ?_
 refine KV.ret1 rfl rfl _ (fun _ h=>h) ⟨fun _=>⟨rfl,rfl⟩,fun m2 _ hg=>?_⟩
 exfalso
 exact ho hg.2.2
 rw[decide_eq_false hr]
 refine J15 ?_
 refine J2 ?_
 refine E4 ?_
 refine KV.ret1 rfl rfl _ (fun _ h=>h) ⟨fun _=>⟨rfl,rfl⟩,fun m2 _ hg=>?_⟩
 exfalso
 exact hr hg.2.1
 rw[decide_eq_false hz]
 refine J15 ?_
 refine J6 ?_
 refine E4 ?_
 refine KV.ret1 rfl rfl _ (fun _ h=>h) ⟨fun _=>⟨rfl,rfl⟩,fun m2 _ hg=>?_⟩
 exfalso
 exact hz hg.1
end Go.Proofs.YtkofjhglgoojiaaGreatDoor.Is
