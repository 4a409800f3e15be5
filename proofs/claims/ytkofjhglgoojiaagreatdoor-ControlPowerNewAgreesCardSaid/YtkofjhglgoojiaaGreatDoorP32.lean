/-
  Joined.
-/
import Derived.Test.YtkofjhglgoojiaaGreatDoorP31
set_option linter.unusedSimpArgs false
set_option linter.unusedVariables false
namespace Go.Proofs.YtkofjhglgoojiaaGreatDoor.Pw
set_option maxRecDepth 100000
set_option maxHeartbeats 20000000
open Go.Tk Go.Sv Go.Rails Go.Dg Go.Pw
attribute [local irreducible] KV SV OV Step Code.wp wpList Exit.then Exit.inBlock Blk OS Big Bun
theorem newUnit_fn (d:BDv) (base:Int) {w:World} (hd:d.pw.rs w) (hsm:d.pw.sm 1000000) (hdl:d.drv.length≤900000) (hE:Dv.EvR w):Fx Tryz.prog 59 [.agg (bdC d).toArray,.int .u64 base] w [] Dv.at4 (fun v L=>(unOk d→ ∃u:UN,v= .tuple #[.agg (unC u).toArray,.bool true]∧u.of d base∧L=[unF u])∧(¬unOk d→v= .tuple #[.agg unZ.toArray,.bool false]∧L=[])):=by
 refine Fb ?_
 intro I hro hI
 refine J2 ?_
 refine RV.op (Yb #[_,_,_,_,_,_,_,_,_,_,_,_,_,_,_,_,_,_] rfl rfl (fun b0_0=>?_))
 refine RV.op (Ya (fun b0_1=>?_))
 refine J8 ?_
 refine Jlt rfl rfl (fun cc1=>?_) (fun cc1=>?_)
 refine J15 ?_
 refine J4 ?_
 refine Jr (Step.build rfl (Bd116_)) ?_
 refine Zw 1 [_,_,_,_,_,_,_,_,_,_,_,_,_,_,_,_,_,_,_,_] #[_,_,_,_,_,_,_,_,_,_,_,_,_,_,_,_,_,_,_,_] ?_
 refine J5 ?_
 refine K1 [1] rfl ?_
 exact KV.retC2 (unZ) rfl rfl rfl Tryz.underlying116 rfl I116.h rfl (fun w h=>h.cells 0 rfl) _ (fun _ h=>h.sel [] rfl) ⟨fun hk=>absurd hk (fun hk=>by have:=hk.1;omega),fun _=>⟨rfl,rfl⟩⟩
 refine J3 ?_
 refine Jge rfl rfl (fun cc2=>?_) (fun cc2=>?_)
 refine J15 ?_
 refine Jr (Step.build rfl (Bd116_)) ?_
 refine Zw 1 [_,_,_,_,_,_,_,_,_,_,_,_,_,_,_,_,_,_,_,_] #[_,_,_,_,_,_,_,_,_,_,_,_,_,_,_,_,_,_,_,_] ?_
 refine J5 ?_
 refine K1 [1] rfl ?_
 exact KV.retC2 (unZ) rfl rfl rfl Tryz.underlying116 rfl I116.h rfl (fun w h=>h.cells 0 rfl) _ (fun _ h=>h.sel [] rfl) ⟨fun hk=>absurd hk (fun hk=>by have:=hk.1;omega),fun _=>⟨rfl,rfl⟩⟩
 refine J8 ?_
 refine Jne rfl rfl (fun cc3=>?_) (fun cc3=>?_)
 refine J6 ?_
 refine Jr (Step.build rfl (Bd116_)) ?_
 refine Zw 1 [_,_,_,_,_,_,_,_,_,_,_,_,_,_,_,_,_,_,_,_] #[_,_,_,_,_,_,_,_,_,_,_,_,_,_,_,_,_,_,_,_] ?_
 refine J5 ?_
 refine K1 [1] rfl ?_
 exact KV.retC2 (unZ) rfl rfl rfl Tryz.underlying116 rfl I116.h rfl (fun w h=>h.cells 0 rfl) _ (fun _ h=>h.sel [] rfl) ⟨fun hk=>absurd hk (fun hk=>by have:=hk.1;omega),fun _=>⟨rfl,rfl⟩⟩
 refine J11 ?_
 refine Jr (Tw rfl (fun w h=>h.cellsO 0 2 [.slice d.pw.r0.A d.pw.r0.ys.length d.pw.r0.c,.slice d.pw.r1.A d.pw.r1.ys.length d.pw.r1.c,.slice d.pw.r2.A d.pw.r2.ys.length d.pw.r2.c,.slice d.pw.r3.A d.pw.r3.ys.length d.pw.r3.c] rfl rfl)) ?_
 refine J4 ?_
 refine E2 ?_
 refine CV.loopI (fun(k:Nat)=>k≤4∧ ∀j,j<k→0<j→(d.pw.rl j).ys=[]) (fun(k:Nat)=>4-k) (fun(k:Nat)=>[(1,.int .u64 base),(2,.pointer (some ⟨b0_0,0,none⟩)),(4,.pointer (some ⟨b0_1,0,none⟩)),(32,.agg #[.slice d.pw.r0.A d.pw.r0.ys.length d.pw.r0.c,.slice d.pw.r1.A d.pw.r1.ys.length d.pw.r1.c,.slice d.pw.r2.A d.pw.r2.ys.length d.pw.r2.c,.slice d.pw.r3.A d.pw.r3.ys.length d.pw.r3.c]),(33,.int .i64 k)]) (fun(k:Nat)=>Hp I w [Blk b0_0 (.cells (bdC d).toArray 41 (0,0)),Blk b0_1 (.cells unZ.toArray 116 (0,0))]) (0) ⟨Nat.zero_le _,fun _ h=>by omega⟩ (sb rfl) (fun _ h=>h) ?_
 intro k hinv
 refine J2 ?_
 refine Jlt rfl rfl (fun cc4=>?_) (fun cc4=>?_)
 refine J11 ?_
 refine Jr (Step.index rfl rfl (rlIx d.pw (by omega))) ?_
 refine J7 ?_
 refine Jne rfl rfl (fun hk0=>?_) (fun hk0=>?_)
 refine J3 ?_
 refine Jgt rfl rfl (fun hkl=>?_) (fun hkl=>?_)
 refine J6 ?_
 refine Jr (Step.build rfl (Bd116_)) ?_
 refine Zw 1 [_,_,_,_,_,_,_,_,_,_,_,_,_,_,_,_,_,_,_,_] #[_,_,_,_,_,_,_,_,_,_,_,_,_,_,_,_,_,_,_,_] ?_
 refine J9 ?_
 refine K1 [1] rfl ?_
 exact KV.retC2 (unZ) rfl rfl rfl Tryz.underlying116 rfl I116.h rfl (fun w h=>h.cells 0 rfl) _ (fun _ h=>h.sel [] rfl) ⟨fun hk=>absurd hk (fun hk=>by have:=unOk_rl hk (k:=k) (by omega) (by omega);rw[this] at hkl;exact absurd hkl (by decide)),fun _=>⟨rfl,rfl⟩⟩
 refine J12 ?_
 refine E2 ?_
 exact KV.loopI (z:=k) (k+1) ⟨by omega,nil_a hinv.2 hkl⟩ (by omega) (sb rfl) (fun _ h=>h)
 refine J15 ?_
 refine J1 ?_
 refine E2 ?_
 exact KV.loopI (z:=k) (k+1) ⟨by omega,nil_b hinv.2 hk0⟩ (by omega) (sb rfl) (fun _ h=>h)
 refine J10 ?_
 obtain rfl:k=4:=by omega
 refine J3 ?_
 refine RV.op (OV.call [] (F:=[_,_]) C106.f C106.b C106.n rfl rfl (fun w h=>newDriver_fn d.drv hdl (Dv.EvR.keep h hE (hro 4 rfl))) (fun b hb=>Dv.roAt4 hE hro b hb) gno rfl (fun v L' hp=>?_))
 by_cases hdk:((Go.Drv.parseM d.drv).1=0∧fitD (Go.Drv.parseM d.drv).2.ts)
 obtain⟨q,d2,hd2,rfl,rfl⟩:=hp.1 hdk
 unfold Go.Drv.instL
 refine J15 ?_
 refine J5 ?_
 refine Jr (Tw rfl (fun w h=>h.cellsO 0 1 (pdC d.pw) rfl rfl)) ?_
 refine RV.op (Ya (fun b12_2=>?_))
 refine Zw 6 [_,_,_,_,_,_,_,_,_,_,_,_,_] #[_,_,_,_,_,_,_,_,_,_,_,_,_] ?_
 refine J4 ?_
 refine KV.heap (fun w h=>Hp.nilBig (F:=hdF) h) ?_
 refine J5 ?_
 refine E8 ?_
 refine CV.loop2 (fun(k:Nat) (e:PDv)=>k≤4∧Cpy d.pw e k) (fun(k:Nat) (e:PDv)=>4-k) (fun(k:Nat) (e:PDv)=>[(1,.int .u64 base),(2,.pointer (some ⟨b0_0,0,none⟩)),(4,.pointer (some ⟨b0_1,0,none⟩)),(8,.pointer (some ⟨q,0,none⟩)),(10,.pointer (some ⟨b12_2,0,none⟩)),(57,.int .i64 k)]) (fun(k:Nat) (e:PDv)=>Hp I w [Blk b0_0 (.cells (bdC d).toArray 41 (0,0)),Blk b0_1 (.cells unZ.toArray 116 (0,0)),Blk q (.cells #[.string (bs d2.name),.slice d2.sA d2.ss.length d2.sc,.slice d2.tA d2.hs.length d2.tc,.int .i64 0,.bool false,.int .i64 0] 363 (0,0)),OS 9 strK d2.sA d2.sc d2.ss,OS 191 Go.Drv.thK d2.tA d2.tc d2.hs,Big Go.Drv.opA d2.hs,Blk b12_2 (.cells (pdC e).toArray 36 (0,0)),Big hdF (e.rls.take k)]) (0) (d.pw) ⟨Nat.zero_le _,Cpy.refl _⟩ (sb rfl) (fun _ h=>h) ?_
 intro k e hinv2
 refine J2 ?_
 refine Jlt rfl rfl (fun cc5=>?_) (fun cc5=>?_)
 refine J14 ?_
 have hol:=hinv2.2.old k (Nat.le_refl _) (by omega)
 refine J4 ?_
 refine Jr (Step.idxArr Tryz.underlying33 I32.h rfl rfl _ rfl (by omega)) ?_
 refine Jr (Tc rfl (fun w h=>h.cell 6 rfl (pd_rl e (by omega)))) ?_
 rw[hol]
 refine RV.op (Yc [] (F:=[_,_,_,_,_,_,_,_]) rfl rfl (fun w h=>Rl.cloneInt_fn (h.rs (hd k (by omega)) (fun _=>hI _)) (hsm k (by omega)) rfl) (fun v L' hp=>?_))
 obtain⟨A2,c2,rfl,rfl⟩:=hp
 refine J1 ?_
 refine Jr (Step.idxArr Tryz.underlying33 I32.h rfl rfl _ rfl (by omega)) ?_
 refine RV.op (OV.store 6 [.slice A2 (d.pw.rl k).ys.length c2] (pdC (e.setR k ⟨A2,c2,(d.pw.rl k).ys⟩)).toArray I32.h rfl rfl rfl rfl rfl (by show 0+1+k* 1+1≤13;omega) (by simp[Value.oneCell']) (pd_store e ⟨A2,c2,(d.pw.rl k).ys⟩ (by omega)) gno ?_)
 refine E9 ?_
 refine KV.heap (fun w h=>Hp.bigSnoc (L:=[_,_,_,_,_,_,_,_]) (F:=hdF) (h':=⟨A2,c2,(d.pw.rl k).ys⟩) (k:=7) h rfl) ?_
 refine J8 ?_
 refine E8 ?_
 exact KV.loop2 (x:=k) (y:=e) (k+1) ((e.setR k ⟨A2,c2,(d.pw.rl k).ys⟩)) ⟨by omega,hinv2.2.step (by omega)⟩ (by omega) (sb rfl) (fun _ h=>by rw[rls_take _ _ (by omega)];exact h)
 refine J10 ?_
 obtain rfl:k=4:=by omega
 refine J6 ?_
 refine Jr (Step.build rfl (Bd116_0_1_2_3_7 _ _ _ _ _ _ _ _ _ _ _ _ _ _ _ _ _)) ?_
 refine Zw 1 [_,_,_,_,_,_,_,_,_,_,_,_,_,_,_,_,_,_,_,_] #[_,_,_,_,_,_,_,_,_,_,_,_,_,_,_,_,_,_,_,_] ?_
 refine J4 ?_
 refine K6 [1,6,1,1,1,1] rfl ?_
 have h9:unOk d:=⟨by omega,⟨hinv.2 1 (by decide) (by decide),hinv.2 2 (by decide) (by decide),hinv.2 3 (by decide) (by decide)⟩,hdk⟩
 exact KV.retC2 (unC ⟨d.fn,e,base,q,d2,⟨0,false,0⟩,false,none,0,[],false,4⟩) rfl rfl rfl Tryz.underlying116 rfl I116.h rfl (fun w h=>h.cells 0 rfl) _ (fun _ h=>unClose (e:=e) (q:=q) (d:=d2) d.fn base 4 (h.sel [1,1,1,1,1] rfl)) ⟨fun _=>⟨_,rfl,⟨⟨rfl,hinv2.2,rfl⟩,hd2,rfl,rfl,rfl,rfl,rfl⟩,rfl⟩,fun hk=>absurd h9 hk⟩
 obtain⟨rfl,rfl⟩:=hp.2 hdk
 simp only[List.append_nil]
 refine J15 ?_
 refine J2 ?_
 refine Jr (Step.build rfl (Bd116_)) ?_
 refine Zw 1 [_,_,_,_,_,_,_,_,_,_,_,_,_,_,_,_,_,_,_,_] #[_,_,_,_,_,_,_,_,_,_,_,_,_,_,_,_,_,_,_,_] ?_
 refine J5 ?_
 refine K1 [1] rfl ?_
 exact KV.retC2 (unZ) rfl rfl rfl Tryz.underlying116 rfl I116.h rfl (fun w h=>h.cells 0 rfl) _ (fun _ h=>h.sel [] rfl) ⟨fun hk=>absurd hk (fun hk=>hdk hk.2.2),fun _=>⟨rfl,rfl⟩⟩
end Go.Proofs.YtkofjhglgoojiaaGreatDoor.Pw
