/-
  Joined.
-/
import Derived.Test.YtkofjhglgoojiaaGreatDoorP09
set_option linter.unusedSimpArgs false
set_option linter.unusedVariables false
namespace Go.Proofs.YtkofjhglgoojiaaGreatDoor.Dv
set_option maxRecDepth 100000
set_option maxHeartbeats 20000000
open Go.Tk Go.Sv Go.Drv
attribute [local irreducible] KV SV OV Step Code.wp wpList Exit.then Exit.inBlock Blk OS Big Bun
theorem rcheck_fn (d:DH) {w:World} (hd:DR w d):Fx Tryz.prog 79 [.agg #[.string (bs d.name),.slice d.sA d.ss.length d.sc,.slice d.tA d.hs.length d.tc]] w [] no (fun v L=>v= .int .i64 (chkM d.d)∧L=[]):=by
 refine Fb ?_
 intro I hro hI
 refine J2 ?_
 refine RV.op (Yb #[_,_,_] rfl rfl (fun p=>?_))
 refine J8 ?_
 refine RV.op (Yp rfl (risName_fn d.name) ?_)
 refine J2 ?_
 refine KV.cases 9 rfl (fun cc1=>?_) (fun cc1=>?_)
 have hnm:=neg_t cc1
 refine J15 ?_
 refine J12 ?_
 refine E0 ?_
 exact KV.ret1 rfl rfl _ (fun _ h=>h) ⟨by rw[show chkM d.d=1 from chk_bad (fun k=>by have k2:=(chkD_iff d).1 k;first|(exfalso;omega)|exact ff k2.1 hnm|exact ff (k2.2.2.1 j (by omega)) hsj|exact ff (k2.2.2.2.1 j (by omega)) hto|(have k3:=k2.2.2.2.2 j (by omega);have e1:(th d.hs j).t.frm=(d.hs.getD j thK.d).t.frm:=rfl;have e2:(th d.hs (j-1)).t.frm=(d.hs.getD (j-1) thK.d).t.frm:=rfl;omega))],rfl⟩
 have hnm:=neg_f cc1
 refine J3 ?_
 refine Jeq rfl rfl (fun a1=>?_) (fun a1=>?_)
 refine J15 ?_
 refine J8 ?_
 refine E0 ?_
 exact KV.ret1 rfl rfl _ (fun _ h=>h) ⟨by rw[show chkM d.d=1 from chk_bad (fun k=>by have k2:=(chkD_iff d).1 k;first|(exfalso;omega)|exact ff k2.1 hnm|exact ff (k2.2.2.1 j (by omega)) hsj|exact ff (k2.2.2.2.1 j (by omega)) hto|(have k3:=k2.2.2.2.2 j (by omega);have e1:(th d.hs j).t.frm=(d.hs.getD j thK.d).t.frm:=rfl;have e2:(th d.hs (j-1)).t.frm=(d.hs.getD (j-1) thK.d).t.frm:=rfl;omega))],rfl⟩
 refine J5 ?_
 refine Jgt rfl rfl (fun a2=>?_) (fun a2=>?_)
 refine J15 ?_
 refine J2 ?_
 refine E0 ?_
 exact KV.ret1 rfl rfl _ (fun _ h=>h) ⟨by rw[show chkM d.d=1 from chk_bad (fun k=>by have k2:=(chkD_iff d).1 k;first|(exfalso;omega)|exact ff k2.1 hnm|exact ff (k2.2.2.1 j (by omega)) hsj|exact ff (k2.2.2.2.1 j (by omega)) hto|(have k3:=k2.2.2.2.2 j (by omega);have e1:(th d.hs j).t.frm=(d.hs.getD j thK.d).t.frm:=rfl;have e2:(th d.hs (j-1)).t.frm=(d.hs.getD (j-1) thK.d).t.frm:=rfl;omega))],rfl⟩
 refine J5 ?_
 refine Jgt rfl rfl (fun a3=>?_) (fun a3=>?_)
 refine J11 ?_
 refine E0 ?_
 exact KV.ret1 rfl rfl _ (fun _ h=>h) ⟨by rw[show chkM d.d=1 from chk_bad (fun k=>by have k2:=(chkD_iff d).1 k;first|(exfalso;omega)|exact ff k2.1 hnm|exact ff (k2.2.2.1 j (by omega)) hsj|exact ff (k2.2.2.2.1 j (by omega)) hto|(have k3:=k2.2.2.2.2 j (by omega);have e1:(th d.hs j).t.frm=(d.hs.getD j thK.d).t.frm:=rfl;have e2:(th d.hs (j-1)).t.frm=(d.hs.getD (j-1) thK.d).t.frm:=rfl;omega))],rfl⟩
 refine J13 ?_
 refine E1 ?_
 refine CV.loopI (fun(j:Nat)=>j≤d.ss.length∧ ∀k,k<j→isNm (d.ss.getD k [])=true) (fun(j:Nat)=>d.ss.length-j) (fun(j:Nat)=>[(1,.pointer (some ⟨p,0,none⟩)),(3,.int .i64 j)]) (fun(j:Nat)=>Hp I w [Blk p (.cells #[.string (bs d.name),.slice d.sA d.ss.length d.sc,.slice d.tA d.hs.length d.tc] 66 (0,0))]) (0) ⟨Nat.zero_le _,fun k hk=>by omega⟩ (sb rfl) (fun _ h=>h) ?_
 intro j hinv
 refine J7 ?_
 refine Jlt rfl rfl (fun hj=>?_) (fun hj=>?_)
 refine J12 ?_
 refine Jr (Ti (fun w h=>(DR.keep h hd hI).s) rfl rfl (rfl) _ rfl (by omega)) ?_
 refine Jr (Tc rfl (fun w h=>((DR.keep h hd hI).s).cell0 (by omega) rfl)) ?_
 refine RV.op (Yp rfl (risName_fn (d.ss.getD j strK.d)) ?_)
 refine J3 ?_
 refine KV.cases 40 rfl (fun cc2=>?_) (fun cc2=>?_)
 have hsj:=neg_t cc2
 refine J12 ?_
 refine E0 ?_
 exact KV.ret1 rfl rfl _ (fun _ h=>h) ⟨by rw[show chkM d.d=1 from chk_bad (fun k=>by have k2:=(chkD_iff d).1 k;first|(exfalso;omega)|exact ff k2.1 hnm|exact ff (k2.2.2.1 j (by omega)) hsj|exact ff (k2.2.2.2.1 j (by omega)) hto|(have k3:=k2.2.2.2.2 j (by omega);have e1:(th d.hs j).t.frm=(d.hs.getD j thK.d).t.frm:=rfl;have e2:(th d.hs (j-1)).t.frm=(d.hs.getD (j-1) thK.d).t.frm:=rfl;omega))],rfl⟩
 have hsj:=neg_f cc2
 refine J10 ?_
 refine E1 ?_
 exact KV.loopI (z:=j) (j+1) ⟨by omega,fun k hk=>by by_cases e:k=j;(subst e;exact hsj);exact hinv.2 k (by omega)⟩ (by omega) (sb rfl) (fun _ h=>h)
 refine J10 ?_
 have hS:=hinv
 refine J5 ?_
 refine E1 ?_
 refine CV.loopI (fun(j:Nat)=>j≤d.hs.length∧ ∀k,k<j→okT d.ss.length (th d.hs k).t=true∧(k=0∨(th d.hs (k-1)).t.frm≤(th d.hs k).t.frm)) (fun(j:Nat)=>d.hs.length-j) (fun(j:Nat)=>[(1,.pointer (some ⟨p,0,none⟩)),(4,.int .i64 j)]) (fun(j:Nat)=>Hp I w [Blk p (.cells #[.string (bs d.name),.slice d.sA d.ss.length d.sc,.slice d.tA d.hs.length d.tc] 66 (0,0))]) (0) ⟨Nat.zero_le _,fun k hk=>by omega⟩ (sb rfl) (fun _ h=>h) ?_
 intro j hinv
 refine J7 ?_
 refine Jlt rfl rfl (fun hj=>?_) (fun hj=>?_)
 refine J8 ?_
 refine An (Hp I w [Blk p (.cells #[.string (bs d.name),.slice d.sA d.ss.length d.sc,.slice d.tA d.hs.length d.tc] 66 (0,0))]) 30 ?_
 refine W 0 ?_
 refine W 1 ?_
 refine W 2 ?_
 refine Wt 3 rfl (Ti (fun w h=>(DR.keep h hd hI).t) rfl rfl (rfl) _ rfl (by omega)) ?_
 refine Wt 4 rfl (Tw rfl (fun w h=>((DR.keep h hd hI).t).cells (by omega))) ?_
 refine W 5 ?_
 refine W 6 ?_
 refine W 7 ?_
 refine V1 8 ?_
 refine Yc [] (F:=[_]) rfl rfl (fun w h=>rgood_fn (d.hs.getD j thK.d) d.ss.length ((DR.keep h hd hI).o j (by omega))) (fun v L' hp=>?_)
 obtain⟨rfl,rfl⟩:=hp
 refine Wn ?_
 refine W 9 ?_
 refine W 10 ?_
 refine KV.cases 58 rfl (fun cc3=>?_) (fun cc3=>?_)
 have hto:=neg_t cc3
 refine Wk 11 ?_
 refine Wk 12 ?_
 refine Wk 13 ?_
 refine Wu 14 ?_
 refine Wu 15 ?_
 refine Wu 16 ?_
 refine Wu 17 ?_
 refine Wu 18 ?_
 refine Wu 19 ?_
 refine Wu 20 ?_
 refine Wu 21 ?_
 refine Wu 22 ?_
 refine Wu 23 ?_
 refine Wu 24 ?_
 refine Wu 25 ?_
 refine Wu 26 ?_
 refine Wu 27 ?_
 refine Wk 28 ?_
 refine W 29 ?_
 refine Vd ?_
 refine J13 ?_
 refine E0 ?_
 exact KV.ret1 rfl rfl _ (fun _ h=>h) ⟨by rw[show chkM d.d=1 from chk_bad (fun k=>by have k2:=(chkD_iff d).1 k;first|(exfalso;omega)|exact ff k2.1 hnm|exact ff (k2.2.2.1 j (by omega)) hsj|exact ff (k2.2.2.2.1 j (by omega)) hto|(have k3:=k2.2.2.2.2 j (by omega);have e1:(th d.hs j).t.frm=(d.hs.getD j thK.d).t.frm:=rfl;have e2:(th d.hs (j-1)).t.frm=(d.hs.getD (j-1) thK.d).t.frm:=rfl;omega))],rfl⟩
 have hto:=neg_f cc3
 refine W 11 ?_
 refine W 12 ?_
 refine W 13 ?_
 refine KV.cases 61 rfl (fun cc4=>?_) (fun cc4=>?_)
 have h61:=of_decide_eq_true cc4
 refine W 14 ?_
 refine W 15 ?_
 refine W 16 ?_
 refine Wt 17 rfl (Ti (fun w h=>(DR.keep h hd hI).t) rfl rfl (rfl) _ rfl (by omega)) ?_
 refine W 18 ?_
 refine Wt 19 rfl (Tc rfl (fun w h=>((DR.keep h hd hI).t).cell0 (by omega) rfl)) ?_
 refine W 20 ?_
 refine W 21 ?_
 refine W 22 ?_
 refine W 23 ?_
 refine Wt 24 rfl (Ti (fun w h=>(DR.keep h hd hI).t) rfl rfl (rfl) _ (show(j:Int)-1=((j-1:Nat):Int) by omega) (by omega)) ?_
 refine W 25 ?_
 refine Wt 26 rfl (Tc rfl (fun w h=>((DR.keep h hd hI).t).cell0 (by omega) rfl)) ?_
 refine W 27 ?_
 refine W 28 ?_
 refine W 29 ?_
 refine Vd ?_
 refine J1 ?_
 refine KV.cases 77 rfl (fun cc5=>?_) (fun cc5=>?_)
 have h77:=of_decide_eq_true cc5
 refine J12 ?_
 refine E0 ?_
 exact KV.ret1 rfl rfl _ (fun _ h=>h) ⟨by rw[show chkM d.d=1 from chk_bad (fun k=>by have k2:=(chkD_iff d).1 k;first|(exfalso;omega)|exact ff k2.1 hnm|exact ff (k2.2.2.1 j (by omega)) hsj|exact ff (k2.2.2.2.1 j (by omega)) hto|(have k3:=k2.2.2.2.2 j (by omega);have e1:(th d.hs j).t.frm=(d.hs.getD j thK.d).t.frm:=rfl;have e2:(th d.hs (j-1)).t.frm=(d.hs.getD (j-1) thK.d).t.frm:=rfl;omega))],rfl⟩
 have h77:=of_decide_eq_false cc5
 refine J10 ?_
 refine E1 ?_
 exact KV.loopI (z:=j) (j+1) ⟨by omega,fun k hk=>by by_cases e:k=j;(subst e;exact⟨hto,by first|(left;omega)|(right;have e1:(th d.hs k).t.frm=(d.hs.getD k thK.d).t.frm:=rfl;have e2:(th d.hs (k-1)).t.frm=(d.hs.getD (k-1) thK.d).t.frm:=rfl;omega)⟩);exact hinv.2 k (by omega)⟩ (by omega) (sb rfl) (fun _ h=>h)
 have h61:=of_decide_eq_false cc4
 refine Wk 14 ?_
 refine Wk 15 ?_
 refine Wk 16 ?_
 refine Wk 17 ?_
 refine Wk 18 ?_
 refine Wk 19 ?_
 refine Wk 20 ?_
 refine Wk 21 ?_
 refine Wk 22 ?_
 refine Wk 23 ?_
 refine Wk 24 ?_
 refine Wk 25 ?_
 refine Wk 26 ?_
 refine Wk 27 ?_
 refine W 28 ?_
 refine W 29 ?_
 refine Vd ?_
 refine J11 ?_
 refine E1 ?_
 exact KV.loopI (z:=j) (j+1) ⟨by omega,fun k hk=>by by_cases e:k=j;(subst e;exact⟨hto,by first|(left;omega)|(right;have e1:(th d.hs k).t.frm=(d.hs.getD k thK.d).t.frm:=rfl;have e2:(th d.hs (k-1)).t.frm=(d.hs.getD (k-1) thK.d).t.frm:=rfl;omega)⟩);exact hinv.2 k (by omega)⟩ (by omega) (sb rfl) (fun _ h=>h)
 refine J13 ?_
 refine RV.op (Yc [] (F:=[_]) rfl rfl (fun w h=>twice_fn (DR.keep h hd hI).s rfl (by omega)) (fun v L' hp=>?_))
 obtain⟨rfl,rfl⟩:=hp
 by_cases hdup: ¬d.ss.Nodup
 rw[decide_eq_true hdup]
 refine J10 ?_
 refine E0 ?_
 exact Rb rfl rfl ⟨by rw[chk_dup (show chkA d.d=true from(chkD_iff d).2 ⟨hnm,by omega,fun k hk=>hS.2 k (by omega),fun k hk=>(hinv.2 k (by omega)).1,fun k hk=>(hinv.2 k (by omega)).2⟩) hdup],rfl⟩
 rw[decide_eq_false hdup]
 refine J11 ?_
 refine E0 ?_
 exact Rb rfl rfl ⟨by rw[chk_ok (show chkA d.d=true from(chkD_iff d).2 ⟨hnm,by omega,fun k hk=>hS.2 k (by omega),fun k hk=>(hinv.2 k (by omega)).1,fun k hk=>(hinv.2 k (by omega)).2⟩) (Decidable.not_not.1 hdup)],rfl⟩
theorem badOp_fn (o:Ro) {w:World}:Fx Tryz.prog 201 [.agg #[.bool o.wr,.int .u64 o.reg,.int .u64 o.val]] w [] no (fun v L=>v= .bool (!roOk o)∧L=[]):=by
 refine Fb ?_
 intro I hro hI
 refine J2 ?_
 refine RV.op (Yb #[_,_,_] rfl rfl (fun b0_0=>?_))
 refine J9 ?_
 refine KV.cases 6 rfl (fun cc1=>?_) (fun cc1=>?_)
 have hwr:=neg_t cc1
 refine J2 ?_
 refine Jne rfl rfl (fun hv=>?_) (fun hv=>?_)
 refine J5 ?_
 refine E0 ?_
 exact KV.ret1 rfl rfl _ (fun _ h=>h) ⟨by rw[show roOk o=false by unfold roOk;rw[hwr,Bool.false_or];exact decide_eq_false hv];rfl,rfl⟩
 refine J5 ?_
 refine E0 ?_
 exact KV.ret1 rfl rfl _ (fun _ h=>h) ⟨by rw[show roOk o=true by unfold roOk;rw[hwr,Bool.false_or];exact decide_eq_true (Decidable.not_not.1 hv)];rfl,rfl⟩
 have hwr:=neg_f cc1
 refine J8 ?_
 refine E0 ?_
 exact KV.ret1 rfl rfl _ (fun _ h=>h) ⟨by rw[show roOk o=true by unfold roOk;rw[hwr];rfl];rfl,rfl⟩
theorem idxBad_fn {A:Option Addr} {n c:Nat} {l:List Ro} {w:World} (hs:RS w roK A l) (hn:n=l.length) (hl:l.length≤1000000):Fx Tryz.prog 208 [.slice A n c,.func (.func 201) #[] #[]] w [] no (fun v L=>(∃x,v= .int .i64 x∧decide (0≤x)=!(l.all roOk))∧L=[]):=by
 subst hn
 refine Fb ?_
 intro I hro hI
 refine J14 ?_
 refine E0 ?_
 refine CV.loopI (fun(j:Nat)=>j≤l.length∧ ∀k,k<j→roOk (l.getD k ro0)=true) (fun(j:Nat)=>l.length-j) (fun(j:Nat)=>[(0,.slice A l.length c),(1,.func (.func 201) #[] #[]),(7,.int .i64 l.length),(8,.int .i64 j)]) (fun(j:Nat)=>Hp I w []) (0) ⟨Nat.zero_le _,fun k hk=>by omega⟩ (sb rfl) (fun _ h=>h) ?_
 intro j hinv
 refine J2 ?_
 refine Jlt rfl rfl (fun hj=>?_) (fun hj=>?_)
 refine J15 ?_
 refine J6 ?_
 refine RV.op (OV.callv [] (F:=[]) (caps:=[]) rfl C201.f C201.b C201.n rfl rfl (fun w h=>badOp_fn (l.getD j roK.d)) (fun _ hb=>hb.elim) gno rfl (fun v L' hp=>?_))
 obtain⟨rfl,rfl⟩:=hp
 refine J2 ?_
 refine KV.cases 16 rfl (fun cc1=>?_) (fun cc1=>?_)
 have hb:=neg_t cc1
 refine J13 ?_
 refine E0 ?_
 exact Rb rfl rfl ⟨⟨_,rfl,by rw[decide_eq_true (by omega),show l.all roOk=false from bool_f (fun k=>ff ((all_iff ro0).1 k j (by omega)) hb)];rfl⟩,rfl⟩
 have hb:=neg_f cc1
 refine J9 ?_
 refine E0 ?_
 exact KV.loopI (z:=j) (j+1) ⟨by omega,fun k hk=>by by_cases e:k=j;(subst e;exact hb);exact hinv.2 k (by omega)⟩ (by omega) (sb rfl) (fun _ h=>h)
 refine J15 ?_
 refine E0 ?_
 exact Rb rfl rfl ⟨⟨_,rfl,by rw[show l.all roOk=true from(all_iff ro0).2 fun k hk=>hinv.2 k (by omega)];rfl⟩,rfl⟩
theorem contBad_fn {A:Option Addr} {n c:Nat} {l:List Ro} {w:World} (hs:RS w roK A l) (hn:n=l.length) (hl:l.length≤1000000):Fx Tryz.prog 200 [.slice A n c,.func (.func 201) #[] #[]] w [] no (fun v L=>v= .bool (!(l.all roOk))∧L=[]):=by
 refine Fb ?_
 intro I hro hI
 refine J9 ?_
 refine RV.op (Yc [] (F:=[]) rfl rfl (fun w h=>idxBad_fn (h.rs hs (fun _=>hI _)) hn hl) (fun v L' hp=>?_))
 obtain⟨⟨x,rfl,hx⟩,rfl⟩:=hp
 simp only[List.append_nil]
 refine J5 ?_
 refine E0 ?_
 exact Rb rfl rfl ⟨by rw[hx],rfl⟩
theorem valid_fn (h0:TH) (n:Nat) {w:World} (ho:RS w roK h0.A h0.t.ops):Fx Tryz.prog 184 [.agg #[.int .i64 h0.t.frm,.string (bs h0.t.ev),.bool h0.t.gd.used,.int .u64 h0.t.gd.reg,.int .u64 h0.t.gd.mask,.int .u64 h0.t.gd.val,.slice h0.A h0.t.ops.length h0.c,.int .i64 h0.t.to],.int .i64 n] w [] no (fun v L=>v= .bool (okT n h0.t)∧L=[]):=by
 refine Fb ?_
 intro I hro hI
 refine J2 ?_
 refine RV.op (Yb #[_,_,_,_,_,_,_,_] rfl rfl (fun p=>?_))
 refine J8 ?_
 refine Jlt rfl rfl (fun a1=>?_) (fun a1=>?_)
 refine J15 ?_
 refine J15 ?_
 refine J3 ?_
 refine E0 ?_
 exact Rb rfl rfl ⟨by rw[show okT n h0.t=false from bool_f (fun k=>by have k2:=(okT_iff _ _).1 k;first|(exfalso;omega)|exact ff k2.2.2.1 hnm|exact ff k2.2.2.2.1 hgd|exact ff (k2.2.2.2.2.2 j (by omega)) hro)],rfl⟩
 refine J4 ?_
 refine Jge rfl rfl (fun a2=>?_) (fun a2=>?_)
 refine J15 ?_
 refine J13 ?_
 refine E0 ?_
 exact Rb rfl rfl ⟨by rw[show okT n h0.t=false from bool_f (fun k=>by have k2:=(okT_iff _ _).1 k;first|(exfalso;omega)|exact ff k2.2.2.1 hnm|exact ff k2.2.2.2.1 hgd|exact ff (k2.2.2.2.2.2 j (by omega)) hro)],rfl⟩
 refine J4 ?_
 refine Jlt rfl rfl (fun a3=>?_) (fun a3=>?_)
 refine J15 ?_
 refine J8 ?_
 refine E0 ?_
 exact Rb rfl rfl ⟨by rw[show okT n h0.t=false from bool_f (fun k=>by have k2:=(okT_iff _ _).1 k;first|(exfalso;omega)|exact ff k2.2.2.1 hnm|exact ff k2.2.2.2.1 hgd|exact ff (k2.2.2.2.2.2 j (by omega)) hro)],rfl⟩
 refine J5 ?_
 refine Jge rfl rfl (fun a4=>?_) (fun a4=>?_)
 refine J15 ?_
 refine J2 ?_
 refine E0 ?_
 exact Rb rfl rfl ⟨by rw[show okT n h0.t=false from bool_f (fun k=>by have k2:=(okT_iff _ _).1 k;first|(exfalso;omega)|exact ff k2.2.2.1 hnm|exact ff k2.2.2.2.1 hgd|exact ff (k2.2.2.2.2.2 j (by omega)) hro)],rfl⟩
 refine J4 ?_
 refine RV.op (Yp rfl (isName_fn h0.t.ev) ?_)
 refine J4 ?_
 refine KV.cases 30 rfl (fun cc1=>?_) (fun cc1=>?_)
 have hnm:=neg_t cc1
 refine J8 ?_
 refine E0 ?_
 exact Rb rfl rfl ⟨by rw[show okT n h0.t=false from bool_f (fun k=>by have k2:=(okT_iff _ _).1 k;first|(exfalso;omega)|exact ff k2.2.2.1 hnm|exact ff k2.2.2.2.1 hgd|exact ff (k2.2.2.2.2.2 j (by omega)) hro)],rfl⟩
 have hnm:=neg_f cc1
 refine J11 ?_
 refine KV.cases 35 rfl (fun cc2=>?_) (fun cc2=>?_)
 have hus:=neg_t cc2
 refine J1 ?_
 refine Jr (Tw rfl (fun w h=>cells_off 2 (us:=[.bool h0.t.gd.used,.int .u64 h0.t.gd.reg,.int .u64 h0.t.gd.mask,.int .u64 h0.t.gd.val]) (h.cells 0 rfl) rfl)) ?_
 refine Jr (Step.build rfl (Bd188_)) ?_
 refine RV.op (OV.split (gyes rfl) (Step.binR rfl rfl (EG188neq _ _ _ _) (EQ188neq _ _ _ _ _ _ _ _)) rfl (fun g1=>?_) (fun g1=>?_))
 refine J15 ?_
 refine J2 ?_
 refine E0 ?_
 have hgd:gdOk h0.t.gd=false∨16<h0.t.ops.length:=by first|(right;omega)|(left;unfold gdOk;rw[hus,Bool.false_or];exact decide_eq_false (fun k=>g1 ⟨hus,k⟩))
 exact Rb rfl rfl ⟨by rw[show okT n h0.t=false from bool_f (fun k=>by have k2:=(okT_iff _ _).1 k;rcases hgd with hgd|hgd;exact ff k2.2.2.2.1 hgd;omega)],rfl⟩
 refine J5 ?_
 refine Jgt rfl rfl (fun a5=>?_) (fun a5=>?_)
 refine J11 ?_
 refine E0 ?_
 have hgd:gdOk h0.t.gd=false∨16<h0.t.ops.length:=by first|(right;omega)|(left;unfold gdOk;rw[hus,Bool.false_or];exact decide_eq_false (fun k=>g1 ⟨hus,k⟩))
 exact Rb rfl rfl ⟨by rw[show okT n h0.t=false from bool_f (fun k=>by have k2:=(okT_iff _ _).1 k;rcases hgd with hgd|hgd;exact ff k2.2.2.2.1 hgd;omega)],rfl⟩
 refine J10 ?_
 refine RV.op (Yc [] (F:=[_]) rfl rfl (fun w h=>contBad_fn (h.rs ho (fun _=>hI _)) rfl (by omega)) (fun v L' hp=>?_))
 obtain⟨rfl,rfl⟩:=hp
 refine J5 ?_
 refine E0 ?_
 have hgd:gdOk h0.t.gd=true:=by unfold gdOk;first|(rw[hus,Bool.true_or])|(rw[hus,Bool.false_or];exact decide_eq_true (Decidable.not_not.1 g1).2)
 exact Rb rfl rfl ⟨by unfold okT;rw[decide_eq_true (show(0≤h0.t.frm∧h0.t.frm<n)∧(0≤h0.t.to∧h0.t.to<n) by omega),hnm,hgd,decide_eq_true (show h0.t.ops.length≤16 by omega)];simp,rfl⟩
 have hus:=neg_f cc2
 refine J9 ?_
 refine Jgt rfl rfl (fun a5=>?_) (fun a5=>?_)
 refine J11 ?_
 refine E0 ?_
 have hgd:gdOk h0.t.gd=false∨16<h0.t.ops.length:=by first|(right;omega)|(left;unfold gdOk;rw[hus,Bool.false_or];exact decide_eq_false (fun k=>g1 ⟨hus,k⟩))
 exact Rb rfl rfl ⟨by rw[show okT n h0.t=false from bool_f (fun k=>by have k2:=(okT_iff _ _).1 k;rcases hgd with hgd|hgd;exact ff k2.2.2.2.1 hgd;omega)],rfl⟩
 refine J10 ?_
 refine RV.op (Yc [] (F:=[_]) rfl rfl (fun w h=>contBad_fn (h.rs ho (fun _=>hI _)) rfl (by omega)) (fun v L' hp=>?_))
 obtain⟨rfl,rfl⟩:=hp
 refine J5 ?_
 refine E0 ?_
 have hgd:gdOk h0.t.gd=true:=by unfold gdOk;first|(rw[hus,Bool.true_or])|(rw[hus,Bool.false_or];exact decide_eq_true (Decidable.not_not.1 g1).2)
 exact Rb rfl rfl ⟨by unfold okT;rw[decide_eq_true (show(0≤h0.t.frm∧h0.t.frm<n)∧(0≤h0.t.to∧h0.t.to<n) by omega),hnm,hgd,decide_eq_true (show h0.t.ops.length≤16 by omega)];simp,rfl⟩
theorem repeats_fn {A:Option Addr} {n c:Nat} {l:List Bs} {w:World} (hs:RS w strK A l) (hn:n=l.length) (hl:l.length≤1000000):Fx Tryz.prog 168 [.slice A n c] w [] no (fun v L=>v= .bool (decide (¬l.Nodup))∧L=[]):=by
 subst hn
 refine Fb ?_
 intro I hro hI
 refine J9 ?_
 refine RV.op (OV.makeMap (κ:=Bs) (ν:=Bool) strV Value.bool Tryz.underlying381 rfl gno rfl (fun mb=>?_))
 refine J12 ?_
 refine E1 ?_
 refine CV.loopI (fun(j:Nat)=>j≤l.length∧(l.take j).Nodup) (fun(j:Nat)=>l.length-j) (fun(j:Nat)=>[(3,.map (some mb)),(9,.slice A l.length c),(10,.int .i64 l.length),(11,.int .i64 j)]) (fun(j:Nat)=>Hp I w [OM mb strV Value.bool ((l.take j).map fun x=>(x,true))]) (0) ⟨Nat.zero_le _,by simp⟩ (sb rfl) (fun _ h=>h) ?_
 intro j hinv
 refine J2 ?_
 refine Jlt rfl rfl (fun hj=>?_) (fun hj=>?_)
 refine J15 ?_
 refine J5 ?_
 refine Jr (Step.lookup 0 (vf:=Value.bool) (zv:=false) (l.getD j strK.d) Tryz.underlying381 (KeyT.string Tryz.underlying9) I4.h rfl rfl rfl) ?_
 rw[mget_dec]
 by_cases hnin:l.getD j strK.d∈l.take j
 rw[decide_eq_true hnin]
 refine J15 ?_
 refine E0 ?_
 exact Rb rfl rfl ⟨by rw[decide_eq_true (show ¬l.Nodup from fun h=>by obtain⟨i,h1,h2,h3⟩:=mem_take.1 hnin;exact nodup_iff.1 h i j h1 (by omega) h3)],rfl⟩
 rw[decide_eq_false hnin]
 refine J8 ?_
 refine RV.op (OV.mapInsert 0 (l.getD j strK.d) true Tryz.underlying381 (KeyT.string Tryz.underlying9) rfl rfl rfl rfl (by rw[mget_true,if_neg hnin]) gno ?_)
 refine J8 ?_
 refine E1 ?_
 exact KV.loopI (z:=j) (j+1) ⟨by omega,by rw[take_next strK.d (by omega),List.nodup_append];exact⟨hinv.2,by simp,fun a ha b hb=>by rw[List.mem_singleton] at hb;rw[hb];exact fun e=>hnin (e▸ha)⟩⟩ (by omega) (sb rfl) (fun _ h=>by rw[take_next strK.d (by omega),List.map_append];exact h)
 refine J15 ?_
 refine E0 ?_
 exact Rb rfl rfl ⟨by rw[decide_eq_false (show ¬ ¬l.Nodup from fun h=>h (by have:=hinv.2;rwa [List.take_of_length_le (by omega)] at this))],rfl⟩
theorem check_fn (d:DH) {w:World} (hd:DR w d):Fx Tryz.prog 169 [.agg #[.string (bs d.name),.slice d.sA d.ss.length d.sc,.slice d.tA d.hs.length d.tc]] w [] no (fun v L=>v= .int .i64 (chkM d.d)∧L=[]):=by
 refine Fb ?_
 intro I hro hI
 refine J2 ?_
 refine RV.op (Yb #[_,_,_] rfl rfl (fun p=>?_))
 refine J8 ?_
 refine RV.op (Yp rfl (isName_fn d.name) ?_)
 refine J2 ?_
 refine KV.cases 12 rfl (fun cc1=>?_) (fun cc1=>?_)
 have hnm:=neg_t cc1
 refine J15 ?_
 refine J12 ?_
 refine E0 ?_
 exact KV.ret1 rfl rfl _ (fun _ h=>h) ⟨by rw[show chkM d.d=1 from chk_bad (fun k=>by have k2:=(chkD_iff d).1 k;first|(exfalso;omega)|exact ff k2.1 hnm|exact ff (k2.2.2.1 j (by omega)) hsj|exact ff (k2.2.2.2.1 j (by omega)) hto|(have k3:=k2.2.2.2.2 j (by omega);have e1:(th d.hs j).t.frm=(d.hs.getD j thK.d).t.frm:=rfl;have e2:(th d.hs (j-1)).t.frm=(d.hs.getD (j-1) thK.d).t.frm:=rfl;omega))],rfl⟩
 have hnm:=neg_f cc1
 refine J3 ?_
 refine Jeq rfl rfl (fun a1=>?_) (fun a1=>?_)
 refine J15 ?_
 refine J8 ?_
 refine E0 ?_
 exact KV.ret1 rfl rfl _ (fun _ h=>h) ⟨by rw[show chkM d.d=1 from chk_bad (fun k=>by have k2:=(chkD_iff d).1 k;first|(exfalso;omega)|exact ff k2.1 hnm|exact ff (k2.2.2.1 j (by omega)) hsj|exact ff (k2.2.2.2.1 j (by omega)) hto|(have k3:=k2.2.2.2.2 j (by omega);have e1:(th d.hs j).t.frm=(d.hs.getD j thK.d).t.frm:=rfl;have e2:(th d.hs (j-1)).t.frm=(d.hs.getD (j-1) thK.d).t.frm:=rfl;omega))],rfl⟩
 refine J5 ?_
 refine Jgt rfl rfl (fun a2=>?_) (fun a2=>?_)
 refine J15 ?_
 refine J2 ?_
 refine E0 ?_
 exact KV.ret1 rfl rfl _ (fun _ h=>h) ⟨by rw[show chkM d.d=1 from chk_bad (fun k=>by have k2:=(chkD_iff d).1 k;first|(exfalso;omega)|exact ff k2.1 hnm|exact ff (k2.2.2.1 j (by omega)) hsj|exact ff (k2.2.2.2.1 j (by omega)) hto|(have k3:=k2.2.2.2.2 j (by omega);have e1:(th d.hs j).t.frm=(d.hs.getD j thK.d).t.frm:=rfl;have e2:(th d.hs (j-1)).t.frm=(d.hs.getD (j-1) thK.d).t.frm:=rfl;omega))],rfl⟩
 refine J5 ?_
 refine Jgt rfl rfl (fun a3=>?_) (fun a3=>?_)
 refine J11 ?_
 refine E0 ?_
 exact KV.ret1 rfl rfl _ (fun _ h=>h) ⟨by rw[show chkM d.d=1 from chk_bad (fun k=>by have k2:=(chkD_iff d).1 k;first|(exfalso;omega)|exact ff k2.1 hnm|exact ff (k2.2.2.1 j (by omega)) hsj|exact ff (k2.2.2.2.1 j (by omega)) hto|(have k3:=k2.2.2.2.2 j (by omega);have e1:(th d.hs j).t.frm=(d.hs.getD j thK.d).t.frm:=rfl;have e2:(th d.hs (j-1)).t.frm=(d.hs.getD (j-1) thK.d).t.frm:=rfl;omega))],rfl⟩
 refine J15 ?_
 refine J1 ?_
 refine E1 ?_
 refine CV.loopI (fun(j:Nat)=>j≤d.ss.length∧ ∀k,k<j→isNm (d.ss.getD k [])=true) (fun(j:Nat)=>d.ss.length-j) (fun(j:Nat)=>[(1,.pointer (some ⟨p,0,none⟩)),(31,.slice d.sA d.ss.length d.sc),(32,.int .i64 d.ss.length),(33,.int .i64 j)]) (fun(j:Nat)=>Hp I w [Blk p (.cells #[.string (bs d.name),.slice d.sA d.ss.length d.sc,.slice d.tA d.hs.length d.tc] 66 (0,0))]) (0) ⟨Nat.zero_le _,fun k hk=>by omega⟩ (sb rfl) (fun _ h=>h) ?_
 intro j hinv
 refine J2 ?_
 refine Jlt rfl rfl (fun hj=>?_) (fun hj=>?_)
 refine J10 ?_
 refine Jr (Ti (fun w h=>(DR.keep h hd hI).s) rfl rfl (rfl) _ rfl (by omega)) ?_
 refine Jr (Tc rfl (fun w h=>((DR.keep h hd hI).s).cell0 (by omega) rfl)) ?_
 refine J6 ?_
 refine RV.op (Yp rfl (isName_fn (d.ss.getD j strK.d)) ?_)
 refine J3 ?_
 refine KV.cases 39 rfl (fun cc2=>?_) (fun cc2=>?_)
 have hsj:=neg_t cc2
 refine J12 ?_
 refine E0 ?_
 exact KV.ret1 rfl rfl _ (fun _ h=>h) ⟨by rw[show chkM d.d=1 from chk_bad (fun k=>by have k2:=(chkD_iff d).1 k;first|(exfalso;omega)|exact ff k2.1 hnm|exact ff (k2.2.2.1 j (by omega)) hsj|exact ff (k2.2.2.2.1 j (by omega)) hto|(have k3:=k2.2.2.2.2 j (by omega);have e1:(th d.hs j).t.frm=(d.hs.getD j thK.d).t.frm:=rfl;have e2:(th d.hs (j-1)).t.frm=(d.hs.getD (j-1) thK.d).t.frm:=rfl;omega))],rfl⟩
 have hsj:=neg_f cc2
 refine J9 ?_
 refine E1 ?_
 exact KV.loopI (z:=j) (j+1) ⟨by omega,fun k hk=>by by_cases e:k=j;(subst e;exact hsj);exact hinv.2 k (by omega)⟩ (by omega) (sb rfl) (fun _ h=>h)
 refine J10 ?_
 have hS:=hinv
 refine J14 ?_
 refine E1 ?_
 refine CV.loopI (fun(j:Nat)=>j≤d.hs.length∧ ∀k,k<j→okT d.ss.length (th d.hs k).t=true∧(k=0∨(th d.hs (k-1)).t.frm≤(th d.hs k).t.frm)) (fun(j:Nat)=>d.hs.length-j) (fun(j:Nat)=>[(1,.pointer (some ⟨p,0,none⟩)),(5,.int .i64 (if j=0 then 0 else (th d.hs (j-1)).t.frm)),(42,.slice d.tA d.hs.length d.tc),(43,.int .i64 d.hs.length),(44,.int .i64 j)]) (fun(j:Nat)=>Hp I w [Blk p (.cells #[.string (bs d.name),.slice d.sA d.ss.length d.sc,.slice d.tA d.hs.length d.tc] 66 (0,0))]) (0) ⟨Nat.zero_le _,fun k hk=>by omega⟩ (sb rfl) (fun _ h=>h) ?_
 intro j hinv
 refine J2 ?_
 refine Jlt rfl rfl (fun hj=>?_) (fun hj=>?_)
 refine J10 ?_
 refine Jr (Ti (fun w h=>(DR.keep h hd hI).t) rfl rfl (rfl) _ rfl (by omega)) ?_
 refine Jr (Tw rfl (fun w h=>((DR.keep h hd hI).t).cells (by omega))) ?_
 refine RV.op (OV.alloc #[.int .i64 0,.string (Sv.bs []),.bool false,.int .u64 0,.int .u64 0,.int .u64 0,.slice none 0 0,.int .i64 0] I191.h rfl gno rfl (fun q=>?_))
 refine Zw 1 [_,_,_,_,_,_,_,_] #[_,_,_,_,_,_,_,_] ?_
 refine J8 ?_
 refine Jlt rfl rfl (fun hlt=>?_) (fun hlt=>?_)
 refine J15 ?_
 refine J8 ?_
 refine E0 ?_
 have hbad:okT d.ss.length (th d.hs j).t=false∨(j≠0∧(th d.hs j).t.frm<(th d.hs (j-1)).t.frm):=by have e1:(th d.hs j).t.frm=(d.hs.getD j thK.d).t.frm:=rfl;first|exact .inl hto|(by_cases e0:j=0;(left;rw[if_pos e0] at hlt;exact bool_f fun k=>by have:=((okT_iff _ _).1 k).1;omega);(right;rw[if_neg e0] at hlt;exact⟨e0,by omega⟩))
 exact Rb rfl rfl ⟨by rw[show chkM d.d=1 from chk_bad (fun k=>by have k2:=(chkD_iff d).1 k;rcases hbad with hb|⟨hb1,hb2⟩;exact ff (k2.2.2.2.1 j (by omega)) hb;(have:=k2.2.2.2.2 j (by omega);omega))],rfl⟩
 refine J5 ?_
 refine RV.op (Yc [] (F:=[_,_]) rfl rfl (fun w h=>valid_fn (d.hs.getD j thK.d) d.ss.length ((DR.keep h hd hI).o j (by omega))) (fun v L' hp=>?_))
 obtain⟨rfl,rfl⟩:=hp
 refine J4 ?_
 refine KV.cases 59 rfl (fun cc3=>?_) (fun cc3=>?_)
 have hto:=neg_t cc3
 refine J13 ?_
 refine E0 ?_
 have hbad:okT d.ss.length (th d.hs j).t=false∨(j≠0∧(th d.hs j).t.frm<(th d.hs (j-1)).t.frm):=by have e1:(th d.hs j).t.frm=(d.hs.getD j thK.d).t.frm:=rfl;first|exact .inl hto|(by_cases e0:j=0;(left;rw[if_pos e0] at hlt;exact bool_f fun k=>by have:=((okT_iff _ _).1 k).1;omega);(right;rw[if_neg e0] at hlt;exact⟨e0,by omega⟩))
 exact Rb rfl rfl ⟨by rw[show chkM d.d=1 from chk_bad (fun k=>by have k2:=(chkD_iff d).1 k;rcases hbad with hb|⟨hb1,hb2⟩;exact ff (k2.2.2.2.1 j (by omega)) hb;(have:=k2.2.2.2.2 j (by omega);omega))],rfl⟩
 have hto:=neg_f cc3
 refine J15 ?_
 refine E1 ?_
 exact KV.loopI (z:=j) (j+1) ⟨by omega,fun k hk=>by by_cases e:k=j;(subst e;exact⟨hto,by have e1:(th d.hs k).t.frm=(d.hs.getD k thK.d).t.frm:=rfl;by_cases e0:k=0;exact .inl e0;(rw[if_neg e0] at hlt;right;omega)⟩);exact hinv.2 k (by omega)⟩ (by omega) ⟨rfl,(by rw[if_neg (Nat.succ_ne_zero _),Nat.add_sub_cancel];rfl),rfl,rfl,rfl,trivial⟩ (fun _ h=>h)
 refine J14 ?_
 refine RV.op (Yc [] (F:=[_]) rfl rfl (fun w h=>repeats_fn (DR.keep h hd hI).s rfl (by omega)) (fun v L' hp=>?_))
 obtain⟨rfl,rfl⟩:=hp
 by_cases hdup: ¬d.ss.Nodup
 rw[decide_eq_true hdup]
 refine J10 ?_
 refine E0 ?_
 exact Rb rfl rfl ⟨by rw[chk_dup (show chkA d.d=true from(chkD_iff d).2 ⟨hnm,by omega,fun k hk=>hS.2 k (by omega),fun k hk=>(hinv.2 k (by omega)).1,fun k hk=>(hinv.2 k (by omega)).2⟩) hdup],rfl⟩
 rw[decide_eq_false hdup]
 refine J11 ?_
 refine E0 ?_
 exact Rb rfl rfl ⟨by rw[chk_ok (show chkA d.d=true from(chkD_iff d).2 ⟨hnm,by omega,fun k hk=>hS.2 k (by omega),fun k hk=>(hinv.2 k (by omega)).1,fun k hk=>(hinv.2 k (by omega)).2⟩) (Decidable.not_not.1 hdup)],rfl⟩
end Go.Proofs.YtkofjhglgoojiaaGreatDoor.Dv
