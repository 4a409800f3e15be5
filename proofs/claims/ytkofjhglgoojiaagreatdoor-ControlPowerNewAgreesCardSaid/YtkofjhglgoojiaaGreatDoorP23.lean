/-
  Joined.
-/
import Derived.Test.YtkofjhglgoojiaaGreatDoorP22
set_option linter.unusedSimpArgs false
set_option linter.unusedVariables false
namespace Go.Proofs.YtkofjhglgoojiaaGreatDoor.Pw
set_option maxRecDepth 100000
set_option maxHeartbeats 20000000
open Go.Tk Go.Sv Go.Rails Go.Dg Go.Pw
attribute [local irreducible] KV SV OV Step Code.wp wpList Exit.then Exit.inBlock Blk OS Big Bun
theorem rlIx (d:PDv): ∀ {k:Nat} (h:k<4) (w:World),(Instr.index 33 (.agg #[.slice d.r0.A d.r0.ys.length d.r0.c,.slice d.r1.A d.r1.ys.length d.r1.c,.slice d.r2.A d.r2.ys.length d.r2.c,.slice d.r3.A d.r3.ys.length d.r3.c]) (.int .i64 (k:Int))).run Tryz.prog w= .ok (.slice (d.rl k).A (d.rl k).ys.length (d.rl k).c) w
 |0,_,_=>by kernel_rfl
 |1,_,_=>by kernel_rfl
 |2,_,_=>by kernel_rfl
 |3,_,_=>by kernel_rfl
 |k+4,h,_=>by omega
theorem railsOk_fn (d:PDv) (m:Int) {w:World} (hds:d.rs w) (hsm:d.sm 1000000):Fx Tryz.prog 146 [.agg (pdK.f d).toArray,.int .i64 m] w [] no (fun v L=>v= .bool (decide (railsOk d m))∧L=[]):=by
 refine Fb ?_
 intro I hro hI
 refine J2 ?_
 refine RV.op (Yb #[_,_,_,_,_,_,_,_,_,_,_,_,_] rfl rfl (fun b0_0=>?_))
 refine J7 ?_
 refine Jr (Tw rfl (fun w h=>h.cellsO 0 1 [.slice d.r0.A d.r0.ys.length d.r0.c,.slice d.r1.A d.r1.ys.length d.r1.c,.slice d.r2.A d.r2.ys.length d.r2.c,.slice d.r3.A d.r3.ys.length d.r3.c] rfl rfl)) ?_
 refine J4 ?_
 refine E0 ?_
 refine CV.loopI (fun(k:Nat)=>k≤4∧ ∀j,j<k→ascP (d.rl j).ys∧rngP m (d.rl j).ys) (fun(k:Nat)=>4-k) (fun(k:Nat)=>[(1,.int .i64 m),(8,.agg #[.slice d.r0.A d.r0.ys.length d.r0.c,.slice d.r1.A d.r1.ys.length d.r1.c,.slice d.r2.A d.r2.ys.length d.r2.c,.slice d.r3.A d.r3.ys.length d.r3.c]),(9,.int .i64 k)]) (fun(k:Nat)=>Hp I w []) (0) ⟨Nat.zero_le _,fun _ h=>by omega⟩ (sb rfl) (fun _ h=>h) ?_
 intro k hinv
 refine J2 ?_
 refine Jlt rfl rfl (fun cc1=>?_) (fun cc1=>?_)
 refine J10 ?_
 refine Jr (Step.index rfl rfl (rlIx d (by omega))) ?_
 refine J5 ?_
 have hsk:=(hsm k (by omega))
 refine J2 ?_
 refine RV.op (Yc [] (F:=[]) rfl rfl (fun w h=>ascD_fn (h.rs (hds k (by omega)) (fun _=>hI _)) (hsm k (by omega)) rfl) (fun v L' hp=>?_))
 obtain⟨rfl,rfl⟩:=hp
 refine J3 ?_
 refine KV.cases 14 rfl (fun cc2=>?_) (fun cc2=>?_)
 rw[Bool.not_eq_true'] at cc2
 have hasc:=of_decide_eq_false cc2
 refine J13 ?_
 refine E0 ?_
 exact Rb rfl rfl ⟨by rw[decide_eq_false (fun h:railsOk d m=>hasc (h k (by omega)).1)],rfl⟩
 rw[Bool.not_eq_false'] at cc2
 have hasc:=of_decide_eq_true cc2
 have hrr:=asc_rng (m:=m) hasc
 refine J7 ?_
 refine Jgt rfl rfl (fun hp0=>?_) (fun hp0=>?_)
 refine J2 ?_
 refine Jr (Ti (fun w h=>(h.rs (hds k (by omega)) (fun _=>hI _))) rfl rfl (rfl) _ (show(0:Int)=((0:Nat):Int) from rfl) (by omega)) ?_
 refine Jr (Tc rfl (fun w h=>(h.rs (hds k (by omega)) (fun _=>hI _)).cell0 (by omega) rfl)) ?_
 refine Jlt rfl rfl (fun cc3=>?_) (fun cc3=>?_)
 refine J15 ?_
 refine J10 ?_
 refine E0 ?_
 exact Rb rfl rfl ⟨by rw[decide_eq_false (fun h:railsOk d m=>by have h1:=hrr.1 (h k (by omega)).2 (by omega);omega)],rfl⟩
 refine J5 ?_
 refine Jr (Ti (fun w h=>(h.rs (hds k (by omega)) (fun _=>hI _))) rfl rfl (rfl) _ (show((d.rl k).ys.length:Int)-1=(((d.rl k).ys.length-1:Nat):Int) by omega) (by omega)) ?_
 refine Jr (Tc rfl (fun w h=>(h.rs (hds k (by omega)) (fun _=>hI _)).cell0 (by omega) rfl)) ?_
 refine J1 ?_
 refine Jge rfl rfl (fun cc4=>?_) (fun cc4=>?_)
 refine J15 ?_
 refine J1 ?_
 refine E0 ?_
 exact Rb rfl rfl ⟨by rw[decide_eq_false (fun h:railsOk d m=>by have h1:=hrr.1 (h k (by omega)).2 (by omega);omega)],rfl⟩
 refine J13 ?_
 refine E0 ?_
 exact KV.loopI (z:=k) (k+1) ⟨by omega,fun j hj=>by by_cases e:j=k;(subst e;exact⟨hasc,hrr.2 (fun _=>by omega)⟩);exact hinv.2 j (by omega)⟩ (by omega) (sb rfl) (fun _ h=>h)
 refine J6 ?_
 refine RV.op (OV.skipU rfl rfl ?_)
 refine RV.op (OV.skipU rfl rfl ?_)
 refine RV.op (OV.skipU rfl rfl ?_)
 refine RV.op (OV.skipU rfl rfl ?_)
 refine RV.op (OV.skipU rfl rfl ?_)
 refine RV.op (OV.skipU rfl rfl ?_)
 refine RV.op (OV.skipU rfl rfl ?_)
 refine RV.op (OV.skipU rfl rfl ?_)
 refine J13 ?_
 refine E0 ?_
 exact KV.loopI (z:=k) (k+1) ⟨by omega,fun j hj=>by by_cases e:j=k;(subst e;exact⟨hasc,hrr.2 (fun _=>by omega)⟩);exact hinv.2 j (by omega)⟩ (by omega) (sb rfl) (fun _ h=>h)
 refine J15 ?_
 refine E0 ?_
 exact Rb rfl rfl ⟨by rw[decide_eq_true (show railsOk d m from fun j hj=>hinv.2 j (by omega))],rfl⟩
theorem check_fn {A:Option Addr} {n c:Nat} {ds:List PDv} {w:World} (hr:RS w pdK A ds) (hl:ds.length≤1000000) (hn:n=ds.length) (hds: ∀i,i<ds.length→(ds.getD i pdK.d).rs w) (hsm: ∀i,i<ds.length→(ds.getD i pdK.d).sm 1000000) (m:Int):Fx Tryz.prog 107 [.slice A n c,.int .i64 m] w [] no (fun v L=>v= .int .i64 (chkD ds m)∧L=[]):=by
 subst hn
 refine Fb ?_
 intro I hro hI
 refine J10 ?_
 refine Jgt rfl rfl (fun cc1=>?_) (fun cc1=>?_)
 refine J15 ?_
 refine J3 ?_
 refine E0 ?_
 exact Rb rfl rfl ⟨by rw[chkD_far (by omega)],rfl⟩
 refine J2 ?_
 refine Jlt rfl rfl (fun cc2=>?_) (fun cc2=>?_)
 refine J15 ?_
 refine E0 ?_
 exact Rb rfl rfl ⟨by rw[chkD_far (by omega)],rfl⟩
 refine J3 ?_
 refine Jgt rfl rfl (fun cc3=>?_) (fun cc3=>?_)
 refine J11 ?_
 refine E0 ?_
 exact Rb rfl rfl ⟨by rw[chkD_far (by omega)],rfl⟩
 refine J15 ?_
 refine E0 ?_
 refine CV.loopI (fun(i:Nat)=>i≤ds.length∧ ∀j,j<i→(ds.getD j pdK.d).ok j m) (fun(i:Nat)=>ds.length-i) (fun(i:Nat)=>[(1,.int .i64 m),(18,.slice A ds.length c),(19,.int .i64 ds.length),(20,.int .i64 i)]) (fun(i:Nat)=>Hp I w []) (0) ⟨Nat.zero_le _,fun _ h=>by omega⟩ (sb rfl) (fun _ h=>h) ?_
 intro i hinv
 refine J2 ?_
 refine Jlt rfl rfl (fun cc4=>?_) (fun cc4=>?_)
 refine J13 ?_
 refine RV.op (Ya (fun b5_3=>?_))
 refine J1 ?_
 refine Zw 0 [_,_,_,_,_,_,_,_,_,_,_,_,_] #[_,_,_,_,_,_,_,_,_,_,_,_,_] ?_
 refine J6 ?_
 refine Jl 0 rfl rfl rfl ?_
 refine Jlt rfl rfl (fun cc5=>?_) (fun cc5=>?_)
 refine J15 ?_
 refine J15 ?_
 refine J2 ?_
 refine E0 ?_
 exact Rb rfl rfl ⟨by rw[chkD_bad (i:=i) (by omega) (fun h=>by first|exact hasc h.2.1|exact hdeep h.2.2.1|(have h1:=h.1;omega))],rfl⟩
 refine J2 ?_
 refine Jl 0 rfl rfl rfl ?_
 refine J1 ?_
 refine Jge rfl rfl (fun cc6=>?_) (fun cc6=>?_)
 refine J15 ?_
 refine J12 ?_
 refine E0 ?_
 exact Rb rfl rfl ⟨by rw[chkD_bad (i:=i) (by omega) (fun h=>by first|exact hasc h.2.1|exact hdeep h.2.2.1|(have h1:=h.1;omega))],rfl⟩
 refine J2 ?_
 refine Jr (Tw rfl (fun w h=>h.cellsO 0 0 (pdC (ds.getD i pdK.d)) rfl rfl)) ?_
 refine J1 ?_
 refine RV.op (Yc [] (F:=[_]) rfl rfl (fun w h=>railsOk_fn (ds.getD i pdK.d) m (fun k hk=>h.rs (hds i (by omega) k hk) (fun _=>hI _)) (hsm i (by omega))) (fun v L' hp=>?_))
 obtain⟨rfl,rfl⟩:=hp
 refine J3 ?_
 refine KV.cases 40 rfl (fun cc7=>?_) (fun cc7=>?_)
 rw[Bool.not_eq_true'] at cc7
 have hasc:=of_decide_eq_false cc7
 refine J15 ?_
 refine J4 ?_
 refine E0 ?_
 exact Rb rfl rfl ⟨by rw[chkD_bad (i:=i) (by omega) (fun h=>by first|exact hasc h.2.1|exact hdeep h.2.2.1|(have h1:=h.1;omega))],rfl⟩
 rw[Bool.not_eq_false'] at cc7
 have hasc:=of_decide_eq_true cc7
 refine Jr (Tw rfl (fun w h=>h.cellsO 0 0 (pdC (ds.getD i pdK.d)) rfl rfl)) ?_
 refine RV.op (Yc [] (F:=[_]) rfl rfl (fun w h=>deep_fn (ds.getD i pdK.d)) (fun v L' hp=>?_))
 obtain⟨rfl,rfl⟩:=hp
 refine J4 ?_
 refine KV.cases 44 rfl (fun cc8=>?_) (fun cc8=>?_)
 rw[Bool.not_eq_true'] at cc8
 have hdeep:=of_decide_eq_false cc8
 refine J13 ?_
 refine E0 ?_
 exact Rb rfl rfl ⟨by rw[chkD_bad (i:=i) (by omega) (fun h=>by first|exact hasc h.2.1|exact hdeep h.2.2.1|(have h1:=h.1;omega))],rfl⟩
 rw[Bool.not_eq_false'] at cc8
 have hdeep:=of_decide_eq_true cc8
 refine J6 ?_
 refine Jl 0 rfl rfl rfl ?_
 refine Jlt rfl rfl (fun cc9=>?_) (fun cc9=>?_)
 refine J15 ?_
 refine J14 ?_
 refine E0 ?_
 exact Rb rfl rfl ⟨by rw[chkD_bad (i:=i) (by omega) (fun h=>by have h1:=h.2.2.2.1;have h2:=h.2.2.2.2;omega)],rfl⟩
 refine J2 ?_
 refine Jl 0 rfl rfl rfl ?_
 refine Jgt rfl rfl (fun cc10=>?_) (fun cc10=>?_)
 refine J15 ?_
 refine J10 ?_
 refine E0 ?_
 exact Rb rfl rfl ⟨by rw[chkD_bad (i:=i) (by omega) (fun h=>by have h1:=h.2.2.2.1;have h2:=h.2.2.2.2;omega)],rfl⟩
 refine J3 ?_
 refine Jl 0 rfl rfl rfl ?_
 refine Jlt rfl rfl (fun cc11=>?_) (fun cc11=>?_)
 refine J15 ?_
 refine J5 ?_
 refine E0 ?_
 exact Rb rfl rfl ⟨by rw[chkD_bad (i:=i) (by omega) (fun h=>by have h1:=h.2.2.2.1;have h2:=h.2.2.2.2;omega)],rfl⟩
 refine J3 ?_
 refine Jl 0 rfl rfl rfl ?_
 refine Jgt rfl rfl (fun cc12=>?_) (fun cc12=>?_)
 refine J15 ?_
 refine E0 ?_
 exact Rb rfl rfl ⟨by rw[chkD_bad (i:=i) (by omega) (fun h=>by have h1:=h.2.2.2.1;have h2:=h.2.2.2.2;omega)],rfl⟩
 refine J12 ?_
 refine E0 ?_
 exact KV.loopI (z:=i) (i+1) ⟨by omega,fun j hj=>by by_cases e:j=i;(subst e;exact⟨by omega,hasc,hdeep,by omega,by omega⟩);exact hinv.2 j (by omega)⟩ (by omega) (sb rfl) (fun _ h=>h)
 refine J15 ?_
 refine E0 ?_
 exact Rb rfl rfl ⟨by rw[chkD_ok (by omega) (fun j hj=>hinv.2 j (by omega))],rfl⟩
theorem valid_fn (d:PDv) (i m:Int) {w:World} (hds:d.rs w) (hsm:d.sm 1000000):Fx Tryz.prog 123 [.agg (pdK.f d).toArray,.int .i64 i,.int .i64 m] w [] no (fun v L=>v= .bool (decide (d.ok i m))∧L=[]):=by
 refine Fb ?_
 intro I hro hI
 refine J2 ?_
 refine RV.op (Yb #[_,_,_,_,_,_,_,_,_,_,_,_,_] rfl rfl (fun b0_0=>?_))
 refine J8 ?_
 refine Jlt rfl rfl (fun cc1=>?_) (fun cc1=>?_)
 refine J15 ?_
 refine J15 ?_
 refine J12 ?_
 refine E0 ?_
 exact Rb rfl rfl ⟨by rw[decide_eq_false (fun h:d.ok i m=>by have h1:=h.1;have h2:=h.2.2.1.1;have h3:=h.2.2.2.1;have h4:=h.2.2.2.2;omega)],rfl⟩
 refine J4 ?_
 refine Jge rfl rfl (fun cc2=>?_) (fun cc2=>?_)
 refine J15 ?_
 refine J15 ?_
 refine J7 ?_
 refine E0 ?_
 exact Rb rfl rfl ⟨by rw[decide_eq_false (fun h:d.ok i m=>by have h1:=h.1;have h2:=h.2.2.1.1;have h3:=h.2.2.2.1;have h4:=h.2.2.2.2;omega)],rfl⟩
 refine J3 ?_
 refine Jr (Step.idxArr Tryz.underlying34 I3.h rfl rfl _ rfl (by first|omega|decide)) ?_
 refine J1 ?_
 refine Jne rfl rfl (fun cc3=>?_) (fun cc3=>?_)
 refine J15 ?_
 refine J15 ?_
 refine J1 ?_
 refine E0 ?_
 exact Rb rfl rfl ⟨by rw[decide_eq_false (fun h:d.ok i m=>by have h1:=h.1;have h2:=h.2.2.1.1;have h3:=h.2.2.2.1;have h4:=h.2.2.2.2;omega)],rfl⟩
 refine J4 ?_
 refine Jlt rfl rfl (fun cc4=>?_) (fun cc4=>?_)
 refine J15 ?_
 refine J11 ?_
 refine E0 ?_
 exact Rb rfl rfl ⟨by rw[decide_eq_false (fun h:d.ok i m=>by have h1:=h.1;have h2:=h.2.2.1.1;have h3:=h.2.2.2.1;have h4:=h.2.2.2.2;omega)],rfl⟩
 refine J4 ?_
 refine Jgt rfl rfl (fun cc5=>?_) (fun cc5=>?_)
 refine J15 ?_
 refine J6 ?_
 refine E0 ?_
 exact Rb rfl rfl ⟨by rw[decide_eq_false (fun h:d.ok i m=>by have h1:=h.1;have h2:=h.2.2.1.1;have h3:=h.2.2.2.1;have h4:=h.2.2.2.2;omega)],rfl⟩
 refine J4 ?_
 refine Jlt rfl rfl (fun cc6=>?_) (fun cc6=>?_)
 refine J15 ?_
 refine J1 ?_
 refine E0 ?_
 exact Rb rfl rfl ⟨by rw[decide_eq_false (fun h:d.ok i m=>by have h1:=h.1;have h2:=h.2.2.1.1;have h3:=h.2.2.2.1;have h4:=h.2.2.2.2;omega)],rfl⟩
 refine J4 ?_
 refine Jgt rfl rfl (fun cc7=>?_) (fun cc7=>?_)
 refine J11 ?_
 refine E0 ?_
 exact Rb rfl rfl ⟨by rw[decide_eq_false (fun h:d.ok i m=>by have h1:=h.1;have h2:=h.2.2.1.1;have h3:=h.2.2.2.1;have h4:=h.2.2.2.2;omega)],rfl⟩
 refine J13 ?_
 refine E1 ?_
 refine CV.loopI (fun(k:Nat)=>k≤4∧ ∀j,j<k→ascP (d.rl j).ys∧rngP m (d.rl j).ys) (fun(k:Nat)=>4-k) (fun(k:Nat)=>[(2,.int .i64 m),(3,.pointer (some ⟨b0_0,0,none⟩)),(7,.int .i64 k)]) (fun(k:Nat)=>Hp I w [Blk b0_0 (.cells (pdC d).toArray 36 (0,0))]) (0) ⟨Nat.zero_le _,fun _ h=>by omega⟩ (sb rfl) (fun _ h=>h) ?_
 intro k hinv
 refine J4 ?_
 refine Jlt rfl rfl (fun cc8=>?_) (fun cc8=>?_)
 refine J9 ?_
 have hsk:=(hsm k (by omega))
 refine J3 ?_
 refine Jr (Step.idxArr Tryz.underlying33 I32.h rfl rfl _ rfl (by first|omega|decide)) ?_
 refine Jr (Tc rfl (fun w h=>h.cell 0 rfl (pd_rl d (by omega)))) ?_
 refine RV.op (Yc [] (F:=[_]) rfl rfl (fun w h=>ascR_fn (h.rs (hds k (by omega)) (fun _=>hI _)) (hsm k (by omega)) rfl) (fun v L' hp=>?_))
 obtain⟨rfl,rfl⟩:=hp
 refine J3 ?_
 refine KV.cases 54 rfl (fun cc9=>?_) (fun cc9=>?_)
 rw[Bool.not_eq_true'] at cc9
 have hasc:=of_decide_eq_false cc9
 refine J13 ?_
 refine E0 ?_
 exact Rb rfl rfl ⟨by rw[decide_eq_false (fun h:d.ok i m=>by exact hasc (h.2.1 k (by omega)).1)],rfl⟩
 rw[Bool.not_eq_false'] at cc9
 have hasc:=of_decide_eq_true cc9
 refine J9 ?_
 refine E1 ?_
 refine CV.loopI (fun(q:Nat)=>q≤(d.rl k).ys.length∧ ∀j,j<q→0≤(d.rl k).ys.getD (j) (intK .i64).d∧(d.rl k).ys.getD (j) (intK .i64).d<m) (fun(q:Nat)=>(d.rl k).ys.length-q) (fun(q:Nat)=>[(2,.int .i64 m),(3,.pointer (some ⟨b0_0,0,none⟩)),(7,.int .i64 k),(8,.int .i64 q)]) (fun(q:Nat)=>Hp I w [Blk b0_0 (.cells (pdC d).toArray 36 (0,0))]) (0) ⟨Nat.zero_le _,fun _ h=>by omega⟩ (sb rfl) (fun _ h=>h) ?_
 intro q hinv2
 refine J6 ?_
 refine Jr (Step.idxArr Tryz.underlying33 I32.h rfl rfl _ rfl (by first|omega|decide)) ?_
 refine Jr (Tc rfl (fun w h=>h.cell 0 rfl (pd_rl d (by omega)))) ?_
 refine J1 ?_
 refine Jlt rfl rfl (fun cc10=>?_) (fun cc10=>?_)
 refine J11 ?_
 refine Jr (Step.idxArr Tryz.underlying33 I32.h rfl rfl _ rfl (by first|omega|decide)) ?_
 refine Jr (Tc rfl (fun w h=>h.cell 0 rfl (pd_rl d (by omega)))) ?_
 refine J1 ?_
 refine Jr (Ti (fun w h=>(h.rs (hds k (by omega)) (fun _=>hI _))) rfl rfl (rfl) _ rfl (by first|omega|decide)) ?_
 refine Jr (Tc rfl (fun w h=>(h.rs (hds k (by omega)) (fun _=>hI _)).cell0 (by omega) rfl)) ?_
 refine Jlt rfl rfl (fun cc11=>?_) (fun cc11=>?_)
 refine J15 ?_
 refine J14 ?_
 refine E0 ?_
 exact Rb rfl rfl ⟨by rw[decide_eq_false (fun h:d.ok i m=>by have h1:=(h.2.1 k (by omega)).2 q (by omega);omega)],rfl⟩
 refine J3 ?_
 refine Jr (Step.idxArr Tryz.underlying33 I32.h rfl rfl _ rfl (by first|omega|decide)) ?_
 refine Jr (Tc rfl (fun w h=>h.cell 0 rfl (pd_rl d (by omega)))) ?_
 refine J1 ?_
 refine Jr (Ti (fun w h=>(h.rs (hds k (by omega)) (fun _=>hI _))) rfl rfl (rfl) _ rfl (by first|omega|decide)) ?_
 refine Jr (Tc rfl (fun w h=>(h.rs (hds k (by omega)) (fun _=>hI _)).cell0 (by omega) rfl)) ?_
 refine J1 ?_
 refine Jge rfl rfl (fun cc12=>?_) (fun cc12=>?_)
 refine J15 ?_
 refine J4 ?_
 refine E0 ?_
 exact Rb rfl rfl ⟨by rw[decide_eq_false (fun h:d.ok i m=>by have h1:=(h.2.1 k (by omega)).2 q (by omega);omega)],rfl⟩
 refine J13 ?_
 refine E1 ?_
 exact KV.loopI (z:=q) (q+1) ⟨by omega,fun j hj=>by by_cases e:j=q;(subst e;omega);exact hinv2.2 j (by omega)⟩ (by omega) (sb rfl) (fun _ h=>h)
 refine J15 ?_
 refine E1 ?_
 exact KV.loopI (z:=k) (k+1) ⟨by omega,fun j hj=>by by_cases e:j=k;(subst e;exact⟨hasc,fun x hx=>hinv2.2 x (by omega)⟩);exact hinv.2 j (by omega)⟩ (by omega) (sb rfl) (fun _ h=>h)
 refine J15 ?_
 refine E1 ?_
 refine CV.loopI (fun(k:Nat)=>k≤6∧ ∀j,j<k→(0≤d.dp j∧d.dp j≤4)∧(0<j→d.dp (j-1)≤d.dp j)) (fun(k:Nat)=>6-k) (fun(k:Nat)=>[(3,.pointer (some ⟨b0_0,0,none⟩)),(9,.int .i64 k)]) (fun(k:Nat)=>Hp I w [Blk b0_0 (.cells (pdC d).toArray 36 (0,0))]) (0) ⟨Nat.zero_le _,fun _ h=>by omega⟩ (sb rfl) (fun _ h=>h) ?_
 intro k hinv3
 refine J4 ?_
 refine Jlt rfl rfl (fun cc13=>?_) (fun cc13=>?_)
 refine J8 ?_
 refine Zs ?_
 refine J2 ?_
 refine Sr (Step.idxArr Tryz.underlying34 I3.h rfl rfl _ rfl (by first|omega|decide)) ?_
 refine Sr (Tc rfl (fun w h=>h.cell 0 rfl (pd_dp d (by omega)))) ?_
 refine SV.split gno (Step.lss rfl rfl) rfl (fun cc14=>?_) (fun cc14=>?_)
 refine J11 ?_
 refine SV.skipU rfl rfl ?_
 refine SV.skipU rfl rfl ?_
 refine SV.skipU rfl rfl ?_
 refine SV.skipU rfl rfl ?_
 refine SV.skipU rfl rfl ?_
 refine SV.skipU rfl rfl ?_
 refine SV.skipU rfl rfl ?_
 refine SV.skipU rfl rfl ?_
 refine SV.skipU rfl rfl ?_
 refine SV.skipU rfl rfl ?_
 refine J2 ?_
 refine SV.nil ?_
 refine J13 ?_
 refine E0 ?_
 exact Rb rfl rfl ⟨by rw[decide_eq_false (fun h:d.ok i m=>by have h1:=((deep_iff d).1 h.2.2.1).2 k (by omega);omega)],rfl⟩
 refine J3 ?_
 refine Sr (Step.idxArr Tryz.underlying34 I3.h rfl rfl _ rfl (by first|omega|decide)) ?_
 refine Sr (Tc rfl (fun w h=>h.cell 0 rfl (pd_dp d (by omega)))) ?_
 refine SV.split (gyes rfl) (Step.gtr rfl rfl) rfl (fun cc15=>?_) (fun cc15=>?_)
 refine J5 ?_
 refine SV.skipU rfl rfl ?_
 refine SV.skipU rfl rfl ?_
 refine SV.skipU rfl rfl ?_
 refine SV.skipU rfl rfl ?_
 refine SV.skipU rfl rfl ?_
 refine SV.skipU rfl rfl ?_
 refine SV.skipU rfl rfl ?_
 refine SV.skipU rfl rfl ?_
 refine SV.skipU rfl rfl ?_
 refine SV.skipU rfl rfl ?_
 refine J2 ?_
 refine SV.nil ?_
 refine J13 ?_
 refine E0 ?_
 exact Rb rfl rfl ⟨by rw[decide_eq_false (fun h:d.ok i m=>by have h1:=((deep_iff d).1 h.2.2.1).2 k (by omega);omega)],rfl⟩
 refine J3 ?_
 refine SV.split (gyes rfl) (Step.gtr rfl rfl) rfl (fun cc16=>?_) (fun cc16=>?_)
 refine J3 ?_
 refine Sr (Step.idxArr Tryz.underlying34 I3.h rfl rfl _ rfl (by first|omega|decide)) ?_
 refine Sr (Tc rfl (fun w h=>h.cell 0 rfl (pd_dp d (by omega)))) ?_
 refine J3 ?_
 refine Sr (Step.idxArr Tryz.underlying34 I3.h rfl rfl _ (show(k:Int)-1=((k-1:Nat):Int) by omega) (by first|omega|decide)) ?_
 refine Sr (Tc rfl (fun w h=>h.cell 0 rfl (pd_dp d (k:=k-1) (by omega)))) ?_
 refine SV.split (gyes rfl) (Step.lss rfl rfl) rfl (fun cc17=>?_) (fun cc17=>?_)
 refine J2 ?_
 refine SV.nil ?_
 refine J13 ?_
 refine E0 ?_
 exact Rb rfl rfl ⟨by rw[decide_eq_false (fun h:d.ok i m=>by have h1:=((deep_iff d).1 h.2.2.1).2 k (by omega);omega)],rfl⟩
 refine J2 ?_
 refine SV.nil ?_
 refine J11 ?_
 refine E1 ?_
 exact KV.loopI (z:=k) (k+1) ⟨by omega,fun j hj=>by by_cases e:j=k;(subst e;exact⟨by omega,fun _=>by omega⟩);exact hinv3.2 j (by omega)⟩ (by omega) (sb rfl) (fun _ h=>h)
 refine J13 ?_
 refine SV.nil ?_
 refine J11 ?_
 refine E1 ?_
 exact KV.loopI (z:=k) (k+1) ⟨by omega,fun j hj=>by by_cases e:j=k;(subst e;exact⟨by omega,fun _=>by omega⟩);exact hinv3.2 j (by omega)⟩ (by omega) (sb rfl) (fun _ h=>h)
 refine J14 ?_
 refine E0 ?_
 exact Rb rfl rfl ⟨by rw[decide_eq_true (show d.ok i m from⟨by omega,fun j hj=>hinv.2 j (by omega),(deep_iff d).2 ⟨by omega,fun j hj=>hinv3.2 j (by omega)⟩,by omega,by omega⟩)],rfl⟩
theorem checkR_fn {A:Option Addr} {n c:Nat} {ds:List PDv} {w:World} (hr:RS w pdK A ds) (hl:ds.length≤1000000) (hn:n=ds.length) (hds: ∀i,i<ds.length→(ds.getD i pdK.d).rs w) (hsm: ∀i,i<ds.length→(ds.getD i pdK.d).sm 1000000) (m:Int):Fx Tryz.prog 80 [.slice A n c,.int .i64 m] w [] no (fun v L=>v= .int .i64 (chkD ds m)∧L=[]):=by
 subst hn
 refine Fb ?_
 intro I hro hI
 refine J10 ?_
 refine Jgt rfl rfl (fun cc1=>?_) (fun cc1=>?_)
 refine J15 ?_
 refine J3 ?_
 refine E0 ?_
 exact Rb rfl rfl ⟨by rw[chkD_far (by omega)],rfl⟩
 refine J2 ?_
 refine Jlt rfl rfl (fun cc2=>?_) (fun cc2=>?_)
 refine J15 ?_
 refine E0 ?_
 exact Rb rfl rfl ⟨by rw[chkD_far (by omega)],rfl⟩
 refine J3 ?_
 refine Jgt rfl rfl (fun cc3=>?_) (fun cc3=>?_)
 refine J11 ?_
 refine E0 ?_
 exact Rb rfl rfl ⟨by rw[chkD_far (by omega)],rfl⟩
 refine J13 ?_
 refine E0 ?_
 refine CV.loopI (fun(i:Nat)=>i≤ds.length∧ ∀j,j<i→(ds.getD j pdK.d).ok j m) (fun(i:Nat)=>ds.length-i) (fun(i:Nat)=>[(0,.slice A ds.length c),(1,.int .i64 m),(5,.int .i64 i)]) (fun(i:Nat)=>Hp I w []) (0) ⟨Nat.zero_le _,fun _ h=>by omega⟩ (sb rfl) (fun _ h=>h) ?_
 intro i hinv
 refine J6 ?_
 refine Jlt rfl rfl (fun cc4=>?_) (fun cc4=>?_)
 refine J15 ?_
 refine RV.op (Yc [] (F:=[]) rfl rfl (fun w h=>valid_fn (ds.getD i pdK.d) i m (fun k hk=>h.rs (hds i (by omega) k hk) (fun _=>hI _)) (hsm i (by omega))) (fun v L' hp=>?_))
 obtain⟨rfl,rfl⟩:=hp
 refine J3 ?_
 refine KV.cases 30 rfl (fun cc5=>?_) (fun cc5=>?_)
 rw[Bool.not_eq_true'] at cc5
 have hasc:=of_decide_eq_false cc5
 refine J12 ?_
 refine E0 ?_
 exact Rb rfl rfl ⟨by rw[chkD_bad (i:=i) (by omega) hasc],rfl⟩
 rw[Bool.not_eq_false'] at cc5
 have hasc:=of_decide_eq_true cc5
 refine J10 ?_
 refine E0 ?_
 exact KV.loopI (z:=i) (i+1) ⟨by omega,fun j hj=>by by_cases e:j=i;(subst e;exact hasc);exact hinv.2 j (by omega)⟩ (by omega) (sb rfl) (fun _ h=>h)
 refine J14 ?_
 refine E0 ?_
 exact Rb rfl rfl ⟨by rw[chkD_ok (by omega) (fun j hj=>hinv.2 j (by omega))],rfl⟩
end Go.Proofs.YtkofjhglgoojiaaGreatDoor.Pw
