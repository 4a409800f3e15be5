/-
  Joined.
-/
import Derived.Test.YtkofjhglgoojiaaGreatDoorP25
import Derived.Test.YtkofjhglgoojiaaGreatDoorP26
import Derived.Test.YtkofjhglgoojiaaGreatDoorP27
set_option linter.unusedSimpArgs false
set_option linter.unusedVariables false
namespace Go.Proofs.YtkofjhglgoojiaaGreatDoor.Pw
set_option maxRecDepth 100000
set_option maxHeartbeats 20000000
open Go.Tk Go.Sv Go.Rails Go.Dg Go.Pw Go.Drv
attribute [local irreducible] KV SV OV Step Code.wp wpList Exit.then Exit.inBlock Blk OS Big Bun
theorem fits_fn (d:DH) {w:World} (hd:DR w d) (hl:d.hs.length≤1000000) (hlo: ∀i,i<d.hs.length→(d.hs.getD i thK.d).t.ops.length≤1000000):Fx Tryz.prog 71 [.agg #[.string (bs d.name),.slice d.sA d.ss.length d.sc,.slice d.tA d.hs.length d.tc]] w [] no (fun v L=>v= .bool (decide (fitD (d.hs.map (·.t))))∧L=[]):=by
 have hdo: ∀i,i<d.hs.length→RS w roK (d.hs.getD i thK.d).A (d.hs.getD i thK.d).t.ops:=hd.o
 refine Fb ?_
 intro I hro hI
 refine J2 ?_
 refine RV.op (Yb #[_,_,_] rfl rfl (fun b0_0=>?_))
 refine J10 ?_
 refine E1 ?_
 refine CV.loopI (fun(i:Nat)=>i≤d.hs.length∧ ∀j,j<i→fitT (d.hs.getD j thK.d).t) (fun(i:Nat)=>d.hs.length-i) (fun(i:Nat)=>[(1,.pointer (some ⟨b0_0,0,none⟩)),(3,.int .i64 i)]) (fun(i:Nat)=>Hp I w [Blk b0_0 (.cells #[.string (bs d.name),.slice d.sA d.ss.length d.sc,.slice d.tA d.hs.length d.tc] 66 (0,0))]) (0) ⟨Nat.zero_le _,fun _ h=>by omega⟩ (sb rfl) (fun _ h=>h) ?_
 intro i hinv
 refine J7 ?_
 refine Jlt rfl rfl (fun cc1=>?_) (fun cc1=>?_)
 refine J12 ?_
 refine Jr (Ti (fun w h=>(h.rs hd.t (fun _=>hI _))) rfl rfl (rfl) _ rfl (by omega)) ?_
 refine Jr (Tw rfl (fun w h=>(h.rs hd.t (fun _=>hI _)).cells (by omega))) ?_
 refine RV.op (OV.alloc #[.int .i64 0,.string (Sv.bs []),.bool false,.int .u64 0,.int .u64 0,.int .u64 0,.slice none 0 0,.int .i64 0] I191.h rfl gno rfl (fun b4_5=>?_))
 refine Zw 1 [_,_,_,_,_,_,_,_] #[_,_,_,_,_,_,_,_] ?_
 refine J8 ?_
 refine Jr (Step.rem rfl rfl (by omega) (rfl)) ?_
 refine Jne rfl rfl (fun h1=>?_) (fun h1=>?_)
 refine J15 ?_
 refine J6 ?_
 refine E0 ?_
 exact Rb rfl rfl ⟨by rw[decide_eq_false (fun h=>by have hf:=(fitD_at h (i:=i) (by omega)).1;first|exact h1 hf.1|(have:=hf.2;omega))],rfl⟩
 refine J4 ?_
 refine Jge rfl rfl (fun h2=>?_) (fun h2=>?_)
 refine J15 ?_
 refine J1 ?_
 refine E0 ?_
 exact Rb rfl rfl ⟨by rw[decide_eq_false (fun h=>by have hf:=(fitD_at h (i:=i) (by omega)).1;first|exact h1 hf.1|(have:=hf.2;omega))],rfl⟩
 refine J12 ?_
 refine E2 ?_
 refine CV.loopI (fun(k:Nat)=>k≤(d.hs.getD i thK.d).t.ops.length∧ ∀j,j<k→regP ((d.hs.getD i thK.d).t.ops.getD j roK.d).reg) (fun(k:Nat)=>(d.hs.getD i thK.d).t.ops.length-k) (fun(k:Nat)=>[(1,.pointer (some ⟨b0_0,0,none⟩)),(3,.int .i64 i),(4,.pointer (some ⟨b4_5,0,none⟩)),(5,.int .i64 k)]) (fun(k:Nat)=>Hp I w [Blk b0_0 (.cells #[.string (bs d.name),.slice d.sA d.ss.length d.sc,.slice d.tA d.hs.length d.tc] 66 (0,0)),Blk b4_5 (.cells (thK.f (d.hs.getD i thK.d)).toArray 191 (0,0))]) (0) ⟨Nat.zero_le _,fun _ h=>by omega⟩ (sb rfl) (fun _ h=>h) ?_
 intro k hinv2
 have hob:=hlo i (by omega)
 refine J7 ?_
 refine Jlt rfl rfl (fun cc2=>?_) (fun cc2=>?_)
 refine J12 ?_
 refine Jr (Ti (fun w h=>(h.rs (hdo i (by omega)) (fun _=>hI _))) rfl rfl (rfl) _ rfl (by omega)) ?_
 refine J1 ?_
 refine Jr (Tc rfl (fun w h=>(h.rs (hdo i (by omega)) (fun _=>hI _)).cell (by omega) rfl)) ?_
 refine Jr (Step.rem rfl rfl (by omega) (rfl)) ?_
 refine Jne rfl rfl (fun h3=>?_) (fun h3=>?_)
 refine J15 ?_
 refine J12 ?_
 refine E0 ?_
 exact Rb rfl rfl ⟨by rw[decide_eq_false (fun h=>by have hf:=(fitD_at h (i:=i) (by omega)).2 k (by omega);first|exact h3 hf.1|(have:=hf.2;omega))],rfl⟩
 refine J4 ?_
 refine Jr (Ti (fun w h=>(h.rs (hdo i (by omega)) (fun _=>hI _))) rfl rfl (rfl) _ rfl (by omega)) ?_
 refine J1 ?_
 refine Jr (Tc rfl (fun w h=>(h.rs (hdo i (by omega)) (fun _=>hI _)).cell (by omega) rfl)) ?_
 refine Jge rfl rfl (fun h4=>?_) (fun h4=>?_)
 refine J15 ?_
 refine J4 ?_
 refine E0 ?_
 exact Rb rfl rfl ⟨by rw[decide_eq_false (fun h=>by have hf:=(fitD_at h (i:=i) (by omega)).2 k (by omega);first|exact h3 hf.1|(have:=hf.2;omega))],rfl⟩
 refine J13 ?_
 refine E2 ?_
 exact KV.loopI (z:=k) (k+1) ⟨by omega,fun j hj=>by by_cases e:j=k;(subst e;exact⟨Decidable.not_not.1 h3,by omega⟩);exact hinv2.2 j (by omega)⟩ (by omega) (sb rfl) (fun _ h=>h)
 refine J15 ?_
 refine E1 ?_
 exact KV.loopI (z:=i) (i+1) ⟨by omega,fun j hj=>by by_cases e:j=i;(subst e;exact⟨⟨Decidable.not_not.1 h1,by omega⟩,fun x hx=>hinv2.2 x (by omega)⟩);exact hinv.2 j (by omega)⟩ (by omega) (sb rfl) (fun _ h=>h)
 refine J14 ?_
 refine E0 ?_
 exact Rb rfl rfl ⟨by rw[decide_eq_true (fitD_of (fun j hj=>hinv.2 j (by omega)))],rfl⟩
theorem newDriver_fn (s:Bs) (hs:s.length≤900000) {w:World} (hE:Dv.EvR w):Fx Tryz.prog 106 [.string (bs s)] w [] Dv.at4 (fun v L=>(((parseM s).1=0∧fitD (parseM s).2.ts)→ ∃(q:Nat) (d2:DH),d2.d=(parseM s).2∧v= .tuple #[.pointer (some ⟨q,0,none⟩),.bool true]∧L=instL q d2 ⟨0,false,0⟩)∧(¬((parseM s).1=0∧fitD (parseM s).2.ts)→v= .tuple #[.pointer none,.bool false]∧L=[])):=by
 refine Fb ?_
 intro I hro hI
 refine J9 ?_
 refine RV.op (OV.call [] (F:=[]) C143.f C143.b C143.n rfl rfl (fun w h=>Dv.parse_fn s hs (Dv.EvR.keep h hE (hro 4 rfl))) (fun b hb=>Dv.roAt4 hE hro b hb) gno rfl (fun v L' hp=>?_))
 obtain⟨d,rfl,hd,rfl⟩:=hp
 unfold dL
 refine J3 ?_
 refine RV.op (OV.alloc #[.string (Sv.bs []),.slice none 0 0,.slice none 0 0] I66.h rfl gno rfl (fun b1_5=>?_))
 refine Zw 3 [_,_,_] #[_,_,_] ?_
 refine J7 ?_
 refine Jne rfl rfl (fun hc=>?_) (fun hc=>?_)
 refine J11 ?_
 refine E0 ?_
 exact Rc rfl rfl rfl ⟨fun hk=>absurd hk (fun hk=>hc hk.1),fun _=>⟨rfl,rfl⟩⟩
 have hp0:=Decidable.not_not.1 hc
 have hck:Go.Drv.chkM d.d=0:=by rw[hd];exact parse_chk hp0
 have hbn:=Dv.chk_bnd hck
 have hts:d.hs.map (·.t)=(parseM s).2.ts:=congrArg Dv.ts hd
 have hln:=hbn.t
 have hol: ∀i,i<d.hs.length→(d.hs.getD i thK.d).t.ops.length≤1000000:=fun i hi=>Nat.le_trans (hbn.o i hi) (by decide)
 refine J15 ?_
 refine E4 ?_
 refine CV.loopI (fun(i:Nat)=>i≤d.hs.length∧ ∀j,j<i→fitT (d.hs.getD j thK.d).t) (fun(i:Nat)=>d.hs.length-i) (fun(i:Nat)=>[(4,.pointer (some ⟨b1_5,0,none⟩)),(19,.slice d.tA d.hs.length d.tc),(20,.int .i64 d.hs.length),(21,.int .i64 i)]) (fun(i:Nat)=>Hp I w [OS 9 strK d.sA d.sc d.ss,OS 191 thK d.tA d.tc d.hs,Big opA d.hs,Blk b1_5 (.cells #[.string (bs d.name),.slice d.sA d.ss.length d.sc,.slice d.tA d.hs.length d.tc] 66 (0,0))]) (0) ⟨Nat.zero_le _,fun _ h=>by omega⟩ (sb rfl) (fun _ h=>h) ?_
 intro i hinv
 refine J2 ?_
 refine Jlt rfl rfl (fun cc1=>?_) (fun cc1=>?_)
 refine J12 ?_
 refine RV.op (OV.alloc #[.int .i64 0,.string (Sv.bs []),.bool false,.int .u64 0,.int .u64 0,.int .u64 0,.slice none 0 0,.int .i64 0] I191.h rfl gno rfl (fun b6_2=>?_))
 refine Zw 4 [_,_,_,_,_,_,_,_] #[_,_,_,_,_,_,_,_] ?_
 refine J8 ?_
 refine RV.op (Yc [] (F:=[_,_,_,_,_]) rfl rfl (fun w h=>isReg_fn _) (fun v L' hp=>?_))
 obtain⟨rfl,rfl⟩:=hp
 refine J3 ?_
 refine KV.cases 29 rfl (fun cc2=>?_) (fun cc2=>?_)
 rw[Bool.not_eq_true'] at cc2
 have hasc:=of_decide_eq_false cc2
 refine J14 ?_
 refine E0 ?_
 exact Rc rfl rfl rfl ⟨fun hk=>absurd hk (fun hk=>hasc (fitD_at (hts▸hk.2) (i:=i) (by omega)).1),fun _=>⟨rfl,rfl⟩⟩
 rw[Bool.not_eq_false'] at cc2
 have hasc:=of_decide_eq_true cc2
 refine J12 ?_
 refine E4 ?_
 refine CV.loopI (fun(k:Nat)=>k≤(d.hs.getD i thK.d).t.ops.length∧ ∀j,j<k→regP ((d.hs.getD i thK.d).t.ops.getD j roK.d).reg) (fun(k:Nat)=>(d.hs.getD i thK.d).t.ops.length-k) (fun(k:Nat)=>[(4,.pointer (some ⟨b1_5,0,none⟩)),(19,.slice d.tA d.hs.length d.tc),(20,.int .i64 d.hs.length),(21,.int .i64 i),(31,.slice (d.hs.getD i thK.d).A (d.hs.getD i thK.d).t.ops.length (d.hs.getD i thK.d).c),(32,.int .i64 (d.hs.getD i thK.d).t.ops.length),(33,.int .i64 k)]) (fun(k:Nat)=>Hp I w [OS 9 strK d.sA d.sc d.ss,OS 191 thK d.tA d.tc d.hs,Big opA d.hs,Blk b1_5 (.cells #[.string (bs d.name),.slice d.sA d.ss.length d.sc,.slice d.tA d.hs.length d.tc] 66 (0,0))]) (0) ⟨Nat.zero_le _,fun _ h=>by omega⟩ (sb rfl) (fun _ h=>h) ?_
 intro k hinv2
 have hob:=hol i (by omega)
 refine J2 ?_
 refine Jlt rfl rfl (fun cc3=>?_) (fun cc3=>?_)
 refine J10 ?_
 refine Jr (Ti (fun w h=>(bigRS h (k:=2) rfl (m:=i) (by omega))) rfl rfl (rfl) _ rfl (by omega)) ?_
 refine Jr (Tw rfl (fun w h=>(bigRS h (k:=2) rfl (m:=i) (by omega)).cells (by omega))) ?_
 refine RV.op (Ya (fun b11_2=>?_))
 refine Zw 4 [_,_,_] #[_,_,_] ?_
 refine J6 ?_
 refine RV.op (Yc [] (F:=[_,_,_,_,_]) rfl rfl (fun w h=>isReg_fn _) (fun v L' hp=>?_))
 obtain⟨rfl,rfl⟩:=hp
 refine J3 ?_
 refine KV.cases 40 rfl (fun cc4=>?_) (fun cc4=>?_)
 rw[Bool.not_eq_true'] at cc4
 have hor:=of_decide_eq_false cc4
 refine J15 ?_
 refine J2 ?_
 refine E0 ?_
 exact Rc rfl rfl rfl ⟨fun hk=>absurd hk (fun hk=>hor ((fitD_at (hts▸hk.2) (i:=i) (by omega)).2 k (by omega))),fun _=>⟨rfl,rfl⟩⟩
 rw[Bool.not_eq_false'] at cc4
 have hor:=of_decide_eq_true cc4
 refine J9 ?_
 refine E4 ?_
 exact KV.loopI (z:=k) (k+1) ⟨by omega,fun j hj=>by by_cases e:j=k;(subst e;exact hor);exact hinv2.2 j (by omega)⟩ (by omega) (sb rfl) (fun _ h=>h)
 refine J15 ?_
 refine E4 ?_
 exact KV.loopI (z:=i) (i+1) ⟨by omega,fun j hj=>by by_cases e:j=i;(subst e;exact⟨hasc,fun x hx=>hinv2.2 x (by omega)⟩);exact hinv.2 j (by omega)⟩ (by omega) (sb rfl) (fun _ h=>h)
 refine J12 ?_
 refine RV.op (Yc [] (F:=[_,_,_,_]) rfl rfl (fun w h=>Dv.new_fn d (Dv.DR.ofHp (k1:=0) (k2:=1) (k3:=2) h rfl rfl rfl rfl)) (fun v L' hp=>?_))
 refine Or.elim hp ?_ (fun h9=>absurd hck h9.1)
 rintro⟨_,q,d2,he2,rfl,rfl⟩
 unfold instL
 refine J15 ?_
 refine J2 ?_
 refine K4 [4,4,4,4] rfl ?_
 exact Rc rfl rfl rfl ⟨fun _=>⟨q,d2,he2.trans hd,rfl,rfl⟩,fun hk=>absurd ⟨hp0,hts▸fitD_of (fun j hj=>hinv.2 j (by omega))⟩ hk⟩
end Go.Proofs.YtkofjhglgoojiaaGreatDoor.Pw
namespace Go.Proofs.YtkofjhglgoojiaaGreatDoor.Pw
set_option maxRecDepth 100000
set_option maxHeartbeats 20000000
open Go.Tk Go.Sv Go.Rails Go.Dg Go.Pw
attribute [local irreducible] KV SV OV Step Code.wp wpList Exit.then Exit.inBlock Blk OS Big Bun
theorem linksOf_fn {A:Option Addr} {n c:Nat} {ds:List BDv} {w:World} (hr:RS w bdK A ds) (hn:n=ds.length) (hl:ds.length≤64) (hsu: ∀i,i<ds.length→RS w (intK .i64) (ds.getD i bdK.d).il.sup.A (ds.getD i bdK.d).il.sup.ys) (hpl: ∀i,i<ds.length→ -1≤(ds.getD i bdK.d).il.par∧(ds.getD i bdK.d).il.sup.ys.length≤1024):Fx Tryz.prog 63 [.slice A n c] w [] no (fun v L=> ∃A2 c2,v= .slice A2 (lkI (ilL ds) ds.length).length c2∧L=[OS 138 linkK A2 c2 (lkI (ilL ds) ds.length)]):=by
 subst hn
 refine Fb ?_
 intro I hro hI
 refine J12 ?_
 refine KV.heap (fun w h=>h.nilOS (e:=138) (K:=linkK)) ?_
 refine J7 ?_
 refine E1 ?_
 refine CV.loop2 (fun(i:Nat) (z:LG)=>i≤ds.length) (fun(i:Nat) (z:LG)=>ds.length-i) (fun(i:Nat) (z:LG)=>[(3,.slice z.A (lkI (ilL ds) i).length z.c),(8,.slice A ds.length c),(9,.int .i64 ds.length),(10,.int .i64 i)]) (fun(i:Nat) (z:LG)=>Hp I w [OS 138 linkK z.A z.c (lkI (ilL ds) i)]) (0) (⟨none,0⟩) (Nat.zero_le _) (sb rfl) (fun _ h=>h) ?_
 intro i z hinv
 have hll:=lkI_len (ids:=ilL ds) (m:=i) (fun j hj=>by rw[il_at ds (by omega)];exact(hpl j (by omega)).2)
 refine J2 ?_
 refine Jlt rfl rfl (fun cc1=>?_) (fun cc1=>?_)
 refine J13 ?_
 refine RV.op (OV.alloc #[.int .i64 0,.int .i64 0,.slice none 0 0,.slice none 0 0,.slice none 0 0,.slice none 0 0,.int .i64 0,.int .i64 0,.int .i64 0,.int .i64 0,.int .i64 0,.int .i64 0,.int .i64 0,.int .i64 0,.int .i64 0,.slice none 0 0,.int .u64 0,.string (Sv.bs [])] I41.h rfl gno rfl (fun b4_3=>?_))
 refine J1 ?_
 refine Zw 1 [_,_,_,_,_,_,_,_,_,_,_,_,_,_,_,_,_,_] #[_,_,_,_,_,_,_,_,_,_,_,_,_,_,_,_,_,_] ?_
 refine J2 ?_
 refine CV.join (fun(x:LG)=>[(3,.slice x.A (lkI (ilL ds) i++lk1 i (ds.getD i bdK.d).il 0).length x.c),(4,.int .i64 i),(5,.pointer (some ⟨b4_3,0,none⟩)),(8,.slice A ds.length c),(9,.int .i64 ds.length),(10,.int .i64 i)]) (fun(x:LG)=>Hp I w [OS 138 linkK x.A x.c (lkI (ilL ds) i++lk1 i (ds.getD i bdK.d).il 0),Blk b4_3 (.cells (bdC (ds.getD i bdK.d)).toArray 41 (0,0))]) ?_ ?_
 refine J5 ?_
 refine Jne rfl rfl (fun hp=>?_) (fun hp=>?_)
 have hpj:=hpl i (by omega)
 have hlk:lkI (ilL ds) i++[⟨(i:Int),(ds.getD i bdK.d).il.par⟩]=lkI (ilL ds) i++lk1 i (ds.getD i bdK.d).il 0:=by rw[lk1_pos (by omega)]
 refine J9 ?_
 refine Jr (Step.build rfl (Bd138_0_1 _ _)) ?_
 refine RV.op (OV.buildSlice (K:=linkK) ([⟨_,_⟩]) rfl (Bs128_1_0 _ _) rfl rfl (by omega) gno rfl (fun b6_6=>?_))
 refine RV.op (Ye 0 rfl rfl rfl rfl rfl (fun w h=>h.os 2 rfl) (by simp only[List.length_cons,List.length_nil];omega) (fun A3 c3=>?_))
 refine J3 ?_
 refine E2 ?_
 exact KV.join (⟨A3,c3⟩) ⟨(congrArg (fun l=>some (Value.slice _ (List.length l) _)) hlk),rfl,rfl,rfl,rfl,rfl,trivial⟩ (fun _ h=>by rw[←hlk];exact h)
 have hlk:lkI (ilL ds) i=lkI (ilL ds) i++lk1 i (ds.getD i bdK.d).il 0:=by rw[lk1_neg (by omega),List.append_nil]
 refine J5 ?_
 refine E2 ?_
 exact KV.join (⟨z.A,z.c⟩) ⟨(congrArg (fun l=>some (Value.slice _ (List.length l) _)) hlk),rfl,rfl,rfl,rfl,rfl,trivial⟩ (fun _ h=>by rw[←hlk];exact h)
 intro x
 refine J10 ?_
 refine E1 ?_
 refine CV.loop2 (fun(k:Nat) (y:LG)=>k≤(ds.getD i bdK.d).il.sup.ys.length) (fun(k:Nat) (y:LG)=>(ds.getD i bdK.d).il.sup.ys.length-k) (fun(k:Nat) (y:LG)=>[(3,.slice y.A (lkI (ilL ds) i++lk1 i (ds.getD i bdK.d).il k).length y.c),(4,.int .i64 i),(8,.slice A ds.length c),(9,.int .i64 ds.length),(10,.int .i64 i),(29,.slice (ds.getD i bdK.d).il.sup.A (ds.getD i bdK.d).il.sup.ys.length (ds.getD i bdK.d).il.sup.c),(30,.int .i64 (ds.getD i bdK.d).il.sup.ys.length),(31,.int .i64 k)]) (fun(k:Nat) (y:LG)=>Hp I w [OS 138 linkK y.A y.c (lkI (ilL ds) i++lk1 i (ds.getD i bdK.d).il k)]) (0) (x) (Nat.zero_le _) (sb rfl) (fun _ h=>h) ?_
 intro k y hinv2
 have hpi:=hpl i (by omega)
 refine J2 ?_
 refine Jlt rfl rfl (fun cc2=>?_) (fun cc2=>?_)
 refine J10 ?_
 refine Jr (Ti (fun w h=>(h.rs (hsu i (by omega)) (fun _=>hI _))) rfl rfl (rfl) _ rfl (by omega)) ?_
 refine Jr (Tc rfl (fun w h=>(h.rs (hsu i (by omega)) (fun _=>hI _)).cell0 (by omega) rfl)) ?_
 refine J7 ?_
 refine Jr (Step.build rfl (Bd138_0_1 _ _)) ?_
 refine RV.op (OV.buildSlice (K:=linkK) ([⟨_,_⟩]) rfl (Bs128_1_0 _ _) rfl rfl (by omega) gno rfl (fun b10_4=>?_))
 refine RV.op (Ye 0 rfl rfl rfl rfl rfl (fun w h=>h.os 1 rfl) (by have:=lk1_len i (ds.getD i bdK.d).il k;simp only[List.length_append,List.length_cons,List.length_nil];omega) (fun A4 c4=>?_))
 refine J9 ?_
 refine E1 ?_
 exact KV.loop2 (x:=k) (y:=y) (k+1) (⟨A4,c4⟩) (by omega) (by omega) ⟨(congrArg (fun l=>some (Value.slice A4 (List.length l) c4)) (by rw[lk1_snoc (by omega),List.append_assoc];rfl)),rfl,rfl,rfl,rfl,rfl,rfl,rfl,trivial⟩ (fun _ h=>by rw[lk1_snoc (by omega),←List.append_assoc];exact h)
 refine J15 ?_
 refine E1 ?_
 have hpi:=hpl i (by omega)
 obtain rfl:k=(ds.getD i bdK.d).il.sup.ys.length:=by omega
 exact KV.loop2 (x:=i) (y:=z) (i+1) (y) (by omega) (by omega) ⟨(congrArg (fun l=>some (Value.slice y.A (List.length l) y.c)) (lkI_succ ds (by omega)).symm),rfl,rfl,rfl,trivial⟩ (fun _ h=>by rw[lkI_succ ds (by omega)];exact h)
 refine J10 ?_
 obtain rfl:i=ds.length:=by omega
 refine J6 ?_
 refine E1 ?_
 exact Rb rfl rfl ⟨_,_,rfl,rfl⟩
theorem equalI_fn {A B:Option Addr} {n c m d:Nat} {xs ys:List Int} {w:World} (hr:RS w (intK .i64) A xs) (hn:n=xs.length) (hr2:RS w (intK .i64) B ys) (hm:m=ys.length) (hl:xs.length≤1000000):Fx Tryz.prog 11 [.slice A n c,.slice B m d] w [] no (fun v L=>v= .bool (decide (xs=ys))∧L=[]):=by
 subst hn
 subst hm
 refine Fb ?_
 intro I hro hI
 refine J12 ?_
 refine Jne rfl rfl (fun hne=>?_) (fun hne=>?_)
 refine J10 ?_
 refine E0 ?_
 exact Rb rfl rfl ⟨by rw[decide_eq_false (fun e=>hne (by rw[e]))],rfl⟩
 refine J12 ?_
 refine E0 ?_
 refine CV.loopI (fun(i:Nat)=>i≤xs.length∧ ∀j,j<i→xs.getD j (intK .i64).d=ys.getD j (intK .i64).d) (fun(i:Nat)=>xs.length-i) (fun(i:Nat)=>[(0,.slice A xs.length c),(1,.slice B ys.length d),(5,.int .i64 i)]) (fun(i:Nat)=>Hp I w []) (0) ⟨Nat.zero_le _,fun _ h=>by omega⟩ (sb rfl) (fun _ h=>h) ?_
 intro i hinv
 refine J6 ?_
 refine Jlt rfl rfl (fun cc1=>?_) (fun cc1=>?_)
 refine J8 ?_
 refine Zs ?_
 refine J8 ?_
 refine SV.split gno (Step.neq rfl rfl) rfl (fun hq=>?_) (fun hq=>?_)
 refine SV.nil ?_
 refine J13 ?_
 refine E0 ?_
 exact Rb rfl rfl ⟨by rw[decide_eq_false (fun e=>hq (by rw[e]))],rfl⟩
 refine SV.nil ?_
 refine J11 ?_
 refine E0 ?_
 exact KV.loopI (z:=i) (i+1) ⟨by omega,fun j hj=>by by_cases e:j=i;(subst e;omega);exact hinv.2 j (by omega)⟩ (by omega) (sb rfl) (fun _ h=>h)
 refine J14 ?_
 refine E0 ?_
 exact Rb rfl rfl ⟨by rw[decide_eq_true (list_eq (by omega) (fun j hj=>hinv.2 j (by omega)))],rfl⟩
theorem ascL_fn {A:Option Addr} {n c:Nat} {l:List Int} (m:Nat) {w:World} (hr:RS w (intK .i64) A l) (hn:n=l.length) (hl:l.length≤1000000) (hm:m≤1000000):Fx Tryz.prog 55 [.slice A n c,.int .i64 m] w [] no (fun v L=> ∃A2 c2 ys,v= .slice A2 ys.length c2∧L=[OS 3 (intK .i64) A2 c2 ys]∧ys.length≤3∧ascP ys∧rngP m ys):=by
 subst hn
 refine Fb ?_
 intro I hro hI
 refine J12 ?_
 refine KV.heap (fun w h=>h.nilOS (e:=3) (K:=intK .i64)) ?_
 refine J5 ?_
 refine E1 ?_
 refine CV.loop2 (fun(v:Nat) (z:Hd)=>(v≤m∧z.ys.length≤3)∧ascP z.ys∧rngP v z.ys) (fun(v:Nat) (z:Hd)=>m-v) (fun(v:Nat) (z:Hd)=>[(0,.slice A l.length c),(1,.int .i64 m),(5,.slice z.A z.ys.length z.c),(6,.int .i64 v)]) (fun(v:Nat) (z:Hd)=>Hp I w [OS 3 (intK .i64) z.A z.c z.ys]) (0) (⟨none,0,[]⟩) ⟨⟨Nat.zero_le _,Nat.zero_le _⟩,fun i hi=>absurd hi (Nat.not_lt_zero _),fun i hi=>absurd hi (Nat.not_lt_zero _)⟩ (sb rfl) (fun _ h=>h) ?_
 intro v z hinv
 refine J5 ?_
 refine Jlt rfl rfl (fun cc1=>?_) (fun cc1=>?_)
 refine J3 ?_
 refine Jlt rfl rfl (fun cc2=>?_) (fun cc2=>?_)
 refine J14 ?_
 refine E1 ?_
 refine CV.loopI (fun(k:Nat)=>k≤l.length) (fun(k:Nat)=>l.length-k) (fun(k:Nat)=>[(0,.slice A l.length c),(1,.int .i64 m),(5,.slice z.A z.ys.length z.c),(6,.int .i64 v),(7,.int .i64 k)]) (fun(k:Nat)=>Hp I w [OS 3 (intK .i64) z.A z.c z.ys]) (0) (Nat.zero_le _) (sb rfl) (fun _ h=>h) ?_
 intro k hinv2
 refine J6 ?_
 refine Jlt rfl rfl (fun cc3=>?_) (fun cc3=>?_)
 refine J12 ?_
 refine Jr (Tc rfl (fun w h=>(h.rs hr (fun _=>hI _)).cell0 (by omega) rfl)) ?_
 refine J1 ?_
 refine RV.op (Yp rfl (Rl.mod_fn _ m (by omega) hm) ?_)
 refine J1 ?_
 refine Jeq rfl rfl (fun cc4=>?_) (fun cc4=>?_)
 refine J7 ?_
 refine RV.op (OV.buildSlice (K:=(intK .i64)) ([_]) rfl (Bs32_1_0 _) rfl rfl (by omega) gno rfl (fun b9_2=>?_))
 refine RV.op (Ye 0 rfl rfl rfl rfl rfl (fun w h=>h.os 1 rfl) (by simp only[List.length_cons,List.length_nil];omega) (fun A3 c3=>?_))
 refine J15 ?_
 refine J1 ?_
 refine E1 ?_
 exact KV.loop2 (x:=v) (y:=z) (v+1) (⟨A3,c3,z.ys++[(v:Int)]⟩) ⟨⟨by omega,by rw[List.length_append,List.length_singleton];omega⟩,asc_snoc hinv.2.1 hinv.2.2,rng_snoc hinv.2.2⟩ (by omega) (sb rfl) (fun _ h=>h)
 refine J12 ?_
 refine E1 ?_
 exact KV.loopI (z:=k) (k+1) (by omega) (by omega) (sb rfl) (fun _ h=>h)
 refine J15 ?_
 refine E1 ?_
 exact KV.loop2 (x:=v) (y:=z) (v+1) (z) ⟨⟨by omega,by omega⟩,hinv.2.1,rng_up hinv.2.2⟩ (by omega) (sb rfl) (fun _ h=>h)
 refine J15 ?_
 refine J1 ?_
 refine E1 ?_
 exact Rb rfl rfl ⟨_,_,_,rfl,rfl,hinv.1.2,hinv.2.1,rng_le hinv.2.2 hinv.1.1⟩
 refine J15 ?_
 refine J5 ?_
 refine E1 ?_
 exact Rb rfl rfl ⟨_,_,_,rfl,rfl,hinv.1.2,hinv.2.1,rng_le hinv.2.2 hinv.1.1⟩
end Go.Proofs.YtkofjhglgoojiaaGreatDoor.Pw
