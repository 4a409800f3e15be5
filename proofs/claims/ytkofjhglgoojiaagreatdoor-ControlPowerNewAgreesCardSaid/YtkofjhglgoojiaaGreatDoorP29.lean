/-
  Joined.
-/
import Derived.Test.YtkofjhglgoojiaaGreatDoorP28
set_option linter.unusedSimpArgs false
set_option linter.unusedVariables false
namespace Go.Proofs.YtkofjhglgoojiaaGreatDoor.Pw
set_option maxRecDepth 100000
set_option maxHeartbeats 20000000
open Go.Tk Go.Sv Go.Rails Go.Dg Go.Pw
attribute [local irreducible] KV SV OV Step Code.wp wpList Exit.then Exit.inBlock Blk OS Big Bun
theorem place_fn (k:Nat) (hk:k≤100) (a:Int) {w:World}:Fx Tryz.prog 28 [.int .i64 k,.int .i64 a] w [] no (fun v L=>v= .int .u64 (plcM k a)∧L=[]):=by
 refine Fb ?_
 intro I hro hI
 refine J6 ?_
 have hmd:=modM_lt a (n:=12) (by decide)
 refine J4 ?_
 refine RV.op (Yp rfl (Rl.mod_fn a 12 (by decide) (by decide)) ?_)
 refine J1 ?_
 refine Jr (Step.rem rfl rfl (by omega) (Int.tmod_eq_emod_of_nonneg (by omega))) ?_
 refine J2 ?_
 refine Jr (Step.convI Tryz.underlying3 Tryz.underlying37 rfl (wU64 (by omega) (by omega))) ?_
 refine J4 ?_
 refine E0 ?_
 exact Rb rfl rfl ⟨rfl,rfl⟩
end Go.Proofs.YtkofjhglgoojiaaGreatDoor.Pw
namespace Go.Proofs.YtkofjhglgoojiaaGreatDoor.Pw
set_option maxRecDepth 100000
set_option maxHeartbeats 20000000
open Go.Tk Go.Sv Go.Rails Go.Dg Go.Pw Go.Drv
attribute [local irreducible] KV SV OV Step Code.wp wpList Exit.then Exit.inBlock Blk OS Big Bun
theorem rnew_fn (d:DH) {w:World} (hd:DR w d):Fx Tryz.prog 38 [.agg #[.string (bs d.name),.slice d.sA d.ss.length d.sc,.slice d.tA d.hs.length d.tc]] w [] no (fun v L=>(Go.Drv.chkM d.d=0∧ ∃q:Nat,v= .tuple #[.pointer (some ⟨q,0,none⟩),.int .i64 0]∧L=[Blk q (.cells #[.string (bs d.name),.slice d.sA d.ss.length d.sc,.slice d.tA d.hs.length d.tc,.int .i64 0,.int .i64 (-1),.string (bs [])] 230 (0,0))])∨(Go.Drv.chkM d.d≠0∧v= .tuple #[.pointer none,.int .i64 (Go.Drv.chkM d.d)]∧L=[])):=by
 refine Fb ?_
 intro I hro hI
 refine J2 ?_
 refine RV.op (Yb #[_,_,_] rfl rfl (fun b=>?_))
 refine J8 ?_
 refine RV.op (Yc [] (F:=[_]) rfl rfl (fun w h=>Dv.rcheck_fn d (DR.keep h hd hI)) (fun v L' hp=>?_))
 obtain⟨rfl,rfl⟩:=hp
 refine J6 ?_
 refine Jne rfl rfl (fun hck=>?_) (fun hck=>?_)
 refine J12 ?_
 refine E0 ?_
 exact Rc rfl rfl rfl (.inr ⟨hck,rfl,rfl⟩)
 have hck0:=Decidable.not_not.1 hck
 refine J8 ?_
 refine Jr (Step.build rfl (Bd230_0_2 _ _ _ _)) ?_
 refine RV.op (Yb #[_,_,_,_,_,_] rfl rfl (fun q=>?_))
 refine J5 ?_
 refine K1 [1] rfl ?_
 exact Rc rfl rfl rfl (.inl ⟨hck0,q,rfl,rfl⟩)
end Go.Proofs.YtkofjhglgoojiaaGreatDoor.Pw
namespace Go.Proofs.YtkofjhglgoojiaaGreatDoor.Pw
set_option maxRecDepth 100000
set_option maxHeartbeats 20000000
open Go.Tk Go.Sv Go.Rails Go.Dg Go.Pw
attribute [local irreducible] KV SV OV Step Code.wp wpList Exit.then Exit.inBlock Blk OS Big Bun
theorem wide_fn {A B C:Option Addr} {n c m d q e:Nat} {ds:List BDv} {drs:List Go.Drv.DH} {w:World} (hr:RS w bdK A ds) (hn:n=ds.length) (hr2:RS w dhK B drs) (hm:m=drs.length) (hl:ds.length≤9223372036854775807) (hl2:drs.length≤9223372036854775807):Fx Tryz.prog 4 [.slice A n c,.slice B m d,.slice C q e] w [] no (fun v L=> ∃b,v= .bool b∧(b=false→Few ds drs q)∧L=[]):=by
 subst hn
 subst hm
 refine Fb ?_
 intro I hro hI
 refine J12 ?_
 refine E0 ?_
 refine CV.loopI (fun(i:Nat)=>i≤ds.length∧ ∀j,j<i→(ds.getD j bdK.d).few) (fun(i:Nat)=>ds.length-i) (fun(i:Nat)=>[(0,.slice A ds.length c),(1,.slice B drs.length d),(2,.slice C q e),(7,.int .i64 i)]) (fun(i:Nat)=>Hp I w []) (0) ⟨Nat.zero_le _,fun _ h=>by omega⟩ (sb rfl) (fun _ h=>h) ?_
 intro i hinv
 refine J6 ?_
 refine Jlt rfl rfl (fun cc1=>?_) (fun cc1=>?_)
 refine J14 ?_
 refine E0 ?_
 refine CV.loopI (fun(k:Nat)=>k≤4∧ ∀j,j<k→((ds.getD i bdK.d).pw.rl j).ys.length≤20) (fun(k:Nat)=>4-k) (fun(k:Nat)=>[(0,.slice A ds.length c),(1,.slice B drs.length d),(2,.slice C q e),(7,.int .i64 i),(8,.int .i64 k)]) (fun(k:Nat)=>Hp I w []) (0) ⟨Nat.zero_le _,fun _ h=>by omega⟩ (sb rfl) (fun _ h=>h) ?_
 intro k hinv2
 refine J4 ?_
 refine Jlt rfl rfl (fun cc2=>?_) (fun cc2=>?_)
 refine J12 ?_
 refine Jr (Ti (fun w h=>h.rs hr (fun _=>hI _)) rfl rfl (rfl) _ rfl (by first|omega|decide)) ?_
 refine J2 ?_
 refine Jr (Step.idxArr Tryz.underlying33 I32.h rfl rfl _ rfl (by first|omega|decide)) ?_
 refine Jr (Tc rfl (fun w h=>(h.rs hr (fun _=>hI _)).cellAt i (2+k) (by omega) (by show of A+i* 18+1+1+k* 1=of A+i* 18+(2+k);omega) (bd_rl _ (by omega)))) ?_
 refine J1 ?_
 refine Jgt rfl rfl (fun cc3=>?_) (fun cc3=>?_)
 refine J15 ?_
 refine J4 ?_
 refine E0 ?_
 exact KV.ret1 rfl rfl _ (fun _ h=>h) ⟨true,rfl,fun e=>(by cases e),rfl⟩
 refine J12 ?_
 refine E0 ?_
 exact KV.loopI (z:=k) (k+1) ⟨by omega,fun j hj=>by by_cases e:j=k;(subst e;omega);exact hinv2.2 j (by omega)⟩ (by omega) (sb rfl) (fun _ h=>h)
 refine J12 ?_
 refine Jr (Ti (fun w h=>h.rs hr (fun _=>hI _)) rfl rfl (rfl) _ rfl (by first|omega|decide)) ?_
 refine J2 ?_
 refine Jr (Tc rfl (fun w h=>(h.rs hr (fun _=>hI _)).cellAt i 15 (by omega) rfl rfl)) ?_
 refine J1 ?_
 refine Jgt rfl rfl (fun cc4=>?_) (fun cc4=>?_)
 refine J15 ?_
 refine J8 ?_
 refine E0 ?_
 exact KV.ret1 rfl rfl _ (fun _ h=>h) ⟨true,rfl,fun e=>(by cases e),rfl⟩
 refine J3 ?_
 refine Jr (Ti (fun w h=>h.rs hr (fun _=>hI _)) rfl rfl (rfl) _ rfl (by first|omega|decide)) ?_
 refine J1 ?_
 refine Jr (Tc rfl (fun w h=>(h.rs hr (fun _=>hI _)).cellAt i 17 (by omega) rfl rfl)) ?_
 refine J1 ?_
 refine Jgt rfl rfl (fun cc5=>?_) (fun cc5=>?_)
 refine J15 ?_
 refine E0 ?_
 exact KV.ret1 rfl rfl _ (fun _ h=>h) ⟨true,rfl,fun e=>(by cases e),rfl⟩
 refine J13 ?_
 refine E0 ?_
 exact KV.loopI (z:=i) (i+1) ⟨by omega,fun j hj=>by by_cases e:j=i;(subst e;exact⟨fun x hx=>hinv2.2 x (by omega),by omega,by omega⟩);exact hinv.2 j (by omega)⟩ (by omega) (sb rfl) (fun _ h=>h)
 refine J15 ?_
 refine E0 ?_
 refine CV.loopI (fun(j:Nat)=>j≤drs.length∧ ∀x,x<j→(drs.getD x dhK.d).hs.length≤40∧(drs.getD x dhK.d).ss.length≤40) (fun(j:Nat)=>drs.length-j) (fun(j:Nat)=>[(0,.slice A ds.length c),(1,.slice B drs.length d),(2,.slice C q e),(9,.int .i64 j)]) (fun(j:Nat)=>Hp I w []) (0) ⟨Nat.zero_le _,fun _ h=>by omega⟩ (sb rfl) (fun _ h=>h) ?_
 intro j hinv3
 refine J6 ?_
 refine Jlt rfl rfl (fun cc6=>?_) (fun cc6=>?_)
 refine J11 ?_
 refine Jr (Ti (fun w h=>h.rs hr2 (fun _=>hI _)) rfl rfl (rfl) _ rfl (by first|omega|decide)) ?_
 refine J1 ?_
 refine Jr (Tc rfl (fun w h=>(h.rs hr2 (fun _=>hI _)).cellAt j 2 (by omega) rfl rfl)) ?_
 refine J1 ?_
 refine Jgt rfl rfl (fun cc7=>?_) (fun cc7=>?_)
 refine J15 ?_
 refine J8 ?_
 refine E0 ?_
 exact KV.ret1 rfl rfl _ (fun _ h=>h) ⟨true,rfl,fun e=>(by cases e),rfl⟩
 refine J3 ?_
 refine Jr (Ti (fun w h=>h.rs hr2 (fun _=>hI _)) rfl rfl (rfl) _ rfl (by first|omega|decide)) ?_
 refine J1 ?_
 refine Jr (Tc rfl (fun w h=>(h.rs hr2 (fun _=>hI _)).cellAt j 1 (by omega) rfl rfl)) ?_
 refine J1 ?_
 refine Jgt rfl rfl (fun cc8=>?_) (fun cc8=>?_)
 refine J15 ?_
 refine E0 ?_
 exact KV.ret1 rfl rfl _ (fun _ h=>h) ⟨true,rfl,fun e=>(by cases e),rfl⟩
 refine J13 ?_
 refine E0 ?_
 exact KV.loopI (z:=j) (j+1) ⟨by omega,fun x hx=>by by_cases e:x=j;(subst e;omega);exact hinv3.2 x (by omega)⟩ (by omega) (sb rfl) (fun _ h=>h)
 refine J12 ?_
 refine Jgt rfl rfl (fun cc9=>?_) (fun cc9=>?_)
 refine J14 ?_
 refine E0 ?_
 exact KV.ret1 rfl rfl _ (fun _ h=>h) ⟨true,rfl,fun e=>(by cases e),rfl⟩
 refine J3 ?_
 refine Jgt rfl rfl (fun cc10=>?_) (fun cc10=>?_)
 refine J10 ?_
 refine E0 ?_
 exact KV.ret1 rfl rfl _ (fun _ h=>h) ⟨true,rfl,fun e=>(by cases e),rfl⟩
 refine J4 ?_
 refine Jgt rfl rfl (fun cc11=>?_) (fun cc11=>?_)
 refine J5 ?_
 refine E0 ?_
 exact KV.ret1 rfl rfl _ (fun _ h=>h) ⟨true,rfl,fun e=>(by cases e),rfl⟩
 refine J5 ?_
 refine E0 ?_
 exact KV.ret1 rfl rfl _ (fun _ h=>h) ⟨false,rfl,fun _=>⟨by omega,fun x hx=>hinv.2 x (by omega),fun x hx=>hinv3.2 x (by omega)⟩,rfl⟩
theorem porder_fn (b:Nat) {uA oA_:Option Addr} {un uc oc:Nat} {tp_ mp bp:Option Addr} {ys:List Int} {w:World} (hl:ys.length≤1000000):Fx Tryz.prog 12 [.pointer (some ⟨b,0,none⟩)] w [Blk b (.cells #[.slice uA un uc,.pointer tp_,.pointer mp,.pointer bp,.slice oA_ ys.length oc] 113 (0,0)),OS 3 (intK .i64) oA_ oc ys] no (fun v L=> ∃A2 c2,v= .slice A2 ys.length c2∧L=[Blk b (.cells #[.slice uA un uc,.pointer tp_,.pointer mp,.pointer bp,.slice oA_ ys.length oc] 113 (0,0)),OS 3 (intK .i64) oA_ oc ys,OS 3 (intK .i64) A2 c2 ys]):=by
 refine Fb ?_
 intro I hro hI
 refine J8 ?_
 refine Jp rfl ?_
 refine J2 ?_
 refine RV.op (Yc [] (F:=[_,_]) rfl rfl (fun w h=>Rl.cloneInt_fn (h.os 1 rfl) hl rfl) (fun v L' hp=>?_))
 obtain⟨A2,c2,rfl,rfl⟩:=hp
 refine J4 ?_
 refine E3 ?_
 exact Rb rfl rfl ⟨_,_,rfl,rfl⟩
theorem rporder_fn (b n:Nat) {dA bA rA sA qA wA xA lA bp tp_ ip:Option Addr} {dc bn bc rn rc sn sc qn qc wn wc xn xc lc:Nat} {links:List Link} {w:World} (hl:links.length≤1000000) (hck:chkM n links=0):Fx Tryz.prog 13 [.pointer (some ⟨b,0,none⟩)] w [Blk b (.cells #[.slice dA n dc,.slice bA bn bc,.pointer bp,.pointer tp_,.pointer ip,.slice rA rn rc,.slice sA sn sc,.slice qA qn qc,.slice wA wn wc,.slice xA xn xc,.slice lA links.length lc] 130 (0,0)),OS 138 linkK lA lc links] no (fun v L=> ∃A2 c2,v= .slice A2 n c2∧L=[Blk b (.cells #[.slice dA n dc,.slice bA bn bc,.pointer bp,.pointer tp_,.pointer ip,.slice rA rn rc,.slice sA sn sc,.slice qA qn qc,.slice wA wn wc,.slice xA xn xc,.slice lA links.length lc] 130 (0,0)),OS 138 linkK lA lc links,OS 3 (intK .i64) A2 c2 (seqM n links)]):=by
 refine Fb ?_
 intro I hro hI
 refine J6 ?_
 refine An (Hp I w [Blk b (.cells #[.slice dA n dc,.slice bA bn bc,.pointer bp,.pointer tp_,.pointer ip,.slice rA rn rc,.slice sA sn sc,.slice qA qn qc,.slice wA wn wc,.slice xA xn xc,.slice lA links.length lc] 130 (0,0))]) 15 ?_
 refine W 0 ?_
 refine W 1 ?_
 refine W 2 ?_
 refine W 3 ?_
 refine W 4 ?_
 refine W 5 ?_
 refine W 6 ?_
 refine W 7 ?_
 refine W 8 ?_
 refine V1 9 ?_
 refine Yc [] (F:=[_,_]) rfl rfl (fun w h=>rorder_fn n (h.os 1 rfl) hl) (fun v L' hp=>?_)
 obtain⟨A2,c2,rfl,rfl⟩:=hp.1 hck
 refine Wn ?_
 refine W 10 ?_
 refine W 11 ?_
 refine W 12 ?_
 refine W 13 ?_
 refine W 14 ?_
 refine Vd ?_
 refine J8 ?_
 refine E3 ?_
 exact Rb rfl rfl ⟨_,_,rfl,rfl⟩
end Go.Proofs.YtkofjhglgoojiaaGreatDoor.Pw
