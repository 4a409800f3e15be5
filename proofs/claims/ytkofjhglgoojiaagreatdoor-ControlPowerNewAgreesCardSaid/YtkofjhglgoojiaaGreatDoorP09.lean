/-
  Joined.
-/
import Derived.Test.YtkofjhglgoojiaaGreatDoorP08
set_option linter.unusedSimpArgs false
set_option linter.unusedVariables false
namespace Go.Proofs.YtkofjhglgoojiaaGreatDoor.Dv
set_option maxRecDepth 100000
set_option maxHeartbeats 20000000
open Go.Tk Go.Sv Go.Drv
attribute [local irreducible] KV SV OV Step Code.wp wpList Exit.then Exit.inBlock Blk OS Big Bun
theorem risName_fn (l:Bs):FxP Tryz.prog 121 [.string (bs l)] (.bool (isNm l)):=by
 refine Fp ?_
 intro wp
 refine J10 ?_
 refine Jeq rfl rfl (fun h0=>?_) (fun h0=>?_)
 refine J15 ?_
 exact KV.retP1 rfl rfl (by first|rw[isNm_f2 (by omega)]|rw[isNm_f1 (by omega)])
 refine J3 ?_
 refine Jgt rfl rfl (fun h1=>?_) (fun h1=>?_)
 refine J11 ?_
 exact KV.retP1 rfl rfl (by first|rw[isNm_f2 (by omega)]|rw[isNm_f1 (by omega)])
 refine J13 ?_
 refine CV.loopI (fun(j:Nat)=>j≤l.length∧(0<j→digB (l.getD 0 0)=false)∧ ∀k,k<j→wrdB (l.getD k 0)=true) (fun(j:Nat)=>l.length-j) (fun(j:Nat)=>[(0,.string (bs l)),(3,.int .i64 j)]) (fun(j:Nat)=>(fun w1=>w1=wp)) (0) ⟨Nat.zero_le _,fun h=>by omega,fun k hk=>by omega⟩ (sb rfl) (fun _ h=>h) ?_
 intro j hinv
 refine J6 ?_
 refine Jlt rfl rfl (fun hj=>?_) (fun hj=>?_)
 refine J11 ?_
 refine Jr (Step.idxStr Tryz.underlying9 rfl rfl _ rfl (by omega)) ?_
 refine J3 ?_
 refine CV.join (α:=Unit) (fun _=>[(0,.string (bs l)),(3,.int .i64 j),(4,.int .u8 ((l.getD j 0).toNat:Int)),(5,.bool (ltrB (l.getD j 0)))]) (fun _=>(fun w1=>w1=wp)) ?_ ?_
 refine J2 ?_
 refine Jge rfl rfl (fun cc1=>?_) (fun cc1=>?_)
 refine J2 ?_
 refine Jle rfl rfl (fun cc2=>?_) (fun cc2=>?_)
 refine J5 ?_
 refine RV.op (OV.skipU rfl rfl ?_)
 refine RV.op (OV.skipU rfl rfl ?_)
 refine J9 ?_
 exact KV.join () ⟨rfl,rfl,rfl,(by first|(exfalso;omega)|rw[show ltrB (l.getD j 0)=true from decide_eq_true (by omega)];rfl|rw[show ltrB (l.getD j 0)=false from decide_eq_false (by omega)];rfl),trivial⟩ (fun _ h=>h)
 refine J3 ?_
 refine Jge rfl rfl (fun cc3=>?_) (fun cc3=>?_)
 refine J2 ?_
 refine Jle rfl rfl (fun cc4=>?_) (fun cc4=>?_)
 refine J9 ?_
 exact KV.join () ⟨rfl,rfl,rfl,(by first|(exfalso;omega)|rw[show ltrB (l.getD j 0)=true from decide_eq_true (by omega)];rfl|rw[show ltrB (l.getD j 0)=false from decide_eq_false (by omega)];rfl),trivial⟩ (fun _ h=>h)
 refine J4 ?_
 refine Jeq rfl rfl (fun cc5=>?_) (fun cc5=>?_)
 refine J4 ?_
 exact KV.join () ⟨rfl,rfl,rfl,(by first|(exfalso;omega)|rw[show ltrB (l.getD j 0)=true from decide_eq_true (by omega)];rfl|rw[show ltrB (l.getD j 0)=false from decide_eq_false (by omega)];rfl),trivial⟩ (fun _ h=>h)
 refine J4 ?_
 exact KV.join () ⟨rfl,rfl,rfl,(by first|(exfalso;omega)|rw[show ltrB (l.getD j 0)=true from decide_eq_true (by omega)];rfl|rw[show ltrB (l.getD j 0)=false from decide_eq_false (by omega)];rfl),trivial⟩ (fun _ h=>h)
 refine J7 ?_
 refine Jeq rfl rfl (fun cc6=>?_) (fun cc6=>?_)
 refine J4 ?_
 exact KV.join () ⟨rfl,rfl,rfl,(by first|(exfalso;omega)|rw[show ltrB (l.getD j 0)=true from decide_eq_true (by omega)];rfl|rw[show ltrB (l.getD j 0)=false from decide_eq_false (by omega)];rfl),trivial⟩ (fun _ h=>h)
 refine J4 ?_
 exact KV.join () ⟨rfl,rfl,rfl,(by first|(exfalso;omega)|rw[show ltrB (l.getD j 0)=true from decide_eq_true (by omega)];rfl|rw[show ltrB (l.getD j 0)=false from decide_eq_false (by omega)];rfl),trivial⟩ (fun _ h=>h)
 refine J6 ?_
 refine Jge rfl rfl (fun cc7=>?_) (fun cc7=>?_)
 refine J2 ?_
 refine Jle rfl rfl (fun cc8=>?_) (fun cc8=>?_)
 refine J9 ?_
 exact KV.join () ⟨rfl,rfl,rfl,(by first|(exfalso;omega)|rw[show ltrB (l.getD j 0)=true from decide_eq_true (by omega)];rfl|rw[show ltrB (l.getD j 0)=false from decide_eq_false (by omega)];rfl),trivial⟩ (fun _ h=>h)
 refine J4 ?_
 refine Jeq rfl rfl (fun cc9=>?_) (fun cc9=>?_)
 refine J4 ?_
 exact KV.join () ⟨rfl,rfl,rfl,(by first|(exfalso;omega)|rw[show ltrB (l.getD j 0)=true from decide_eq_true (by omega)];rfl|rw[show ltrB (l.getD j 0)=false from decide_eq_false (by omega)];rfl),trivial⟩ (fun _ h=>h)
 refine J4 ?_
 exact KV.join () ⟨rfl,rfl,rfl,(by first|(exfalso;omega)|rw[show ltrB (l.getD j 0)=true from decide_eq_true (by omega)];rfl|rw[show ltrB (l.getD j 0)=false from decide_eq_false (by omega)];rfl),trivial⟩ (fun _ h=>h)
 refine J7 ?_
 refine Jeq rfl rfl (fun cc10=>?_) (fun cc10=>?_)
 refine J4 ?_
 exact KV.join () ⟨rfl,rfl,rfl,(by first|(exfalso;omega)|rw[show ltrB (l.getD j 0)=true from decide_eq_true (by omega)];rfl|rw[show ltrB (l.getD j 0)=false from decide_eq_false (by omega)];rfl),trivial⟩ (fun _ h=>h)
 refine J4 ?_
 exact KV.join () ⟨rfl,rfl,rfl,(by first|(exfalso;omega)|rw[show ltrB (l.getD j 0)=true from decide_eq_true (by omega)];rfl|rw[show ltrB (l.getD j 0)=false from decide_eq_false (by omega)];rfl),trivial⟩ (fun _ h=>h)
 intro _
 refine J5 ?_
 refine KV.cases 43 rfl (fun cc11=>?_) (fun cc11=>?_)
 have hlt:=neg_t cc11
 refine J1 ?_
 refine Jeq rfl rfl (fun hz=>?_) (fun hz=>?_)
 refine J15 ?_
 refine J8 ?_
 have hbad:(j=0∧(digB (l.getD j 0)=true∨wrdB (l.getD j 0)=false))∨wrdB (l.getD j 0)=false:=by by_cases e:j=0;(left;refine⟨e,?_⟩;by_cases hd:digB (l.getD j 0)=true;exact .inl hd;(right;unfold wrdB;rw[hlt,bool_f hd];rfl));(right;unfold wrdB;rw[hlt,Bool.false_or];exact decide_eq_false (by omega))
 exact KV.retP1 rfl rfl (by rcases hbad with ⟨e,h5|h5⟩|h5;(subst e;rw[isNm_f3 h5]);rw[isNm_f4 (k:=j) (by omega) h5];rw[isNm_f4 (k:=j) (by omega) h5])
 refine J2 ?_
 refine Jlt rfl rfl (fun cc12=>?_) (fun cc12=>?_)
 refine J15 ?_
 refine J5 ?_
 have hbad:(j=0∧(digB (l.getD j 0)=true∨wrdB (l.getD j 0)=false))∨wrdB (l.getD j 0)=false:=by by_cases e:j=0;(left;refine⟨e,?_⟩;by_cases hd:digB (l.getD j 0)=true;exact .inl hd;(right;unfold wrdB;rw[hlt,bool_f hd];rfl));(right;unfold wrdB;rw[hlt,Bool.false_or];exact decide_eq_false (by omega))
 exact KV.retP1 rfl rfl (by rcases hbad with ⟨e,h5|h5⟩|h5;(subst e;rw[isNm_f3 h5]);rw[isNm_f4 (k:=j) (by omega) h5];rw[isNm_f4 (k:=j) (by omega) h5])
 refine J3 ?_
 refine Jgt rfl rfl (fun cc13=>?_) (fun cc13=>?_)
 refine J15 ?_
 refine J1 ?_
 have hbad:(j=0∧(digB (l.getD j 0)=true∨wrdB (l.getD j 0)=false))∨wrdB (l.getD j 0)=false:=by by_cases e:j=0;(left;refine⟨e,?_⟩;by_cases hd:digB (l.getD j 0)=true;exact .inl hd;(right;unfold wrdB;rw[hlt,bool_f hd];rfl));(right;unfold wrdB;rw[hlt,Bool.false_or];exact decide_eq_false (by omega))
 exact KV.retP1 rfl rfl (by rcases hbad with ⟨e,h5|h5⟩|h5;(subst e;rw[isNm_f3 h5]);rw[isNm_f4 (k:=j) (by omega) h5];rw[isNm_f4 (k:=j) (by omega) h5])
 refine J14 ?_
 have hw1:wrdB (l.getD j 0)=true:=by unfold wrdB;first|rw[hlt,Bool.true_or]|rw[hlt,Bool.false_or,show digB (l.getD j 0)=true from decide_eq_true (by omega)]
 have hd0:digB (l.getD 0 0)=false:=by by_cases e:j=0;(subst e;first|exact ltr_dig hlt|(exfalso;omega));exact hinv.2.1 (by omega)
 exact KV.loopI (z:=j) (j+1) ⟨by omega,fun _=>hd0,fun k hk=>by by_cases e:k=j;(subst e;exact hw1);exact hinv.2.2 k (by omega)⟩ (by omega) (sb rfl) (fun _ h=>h)
 have hlt:=neg_f cc11
 refine J3 ?_
 refine RV.op (OV.skipU rfl rfl ?_)
 refine RV.op (OV.skipU rfl rfl ?_)
 refine J2 ?_
 refine RV.op (OV.skipU rfl rfl ?_)
 refine RV.op (OV.skipU rfl rfl ?_)
 refine J14 ?_
 have hw1:wrdB (l.getD j 0)=true:=by unfold wrdB;first|rw[hlt,Bool.true_or]|rw[hlt,Bool.false_or,show digB (l.getD j 0)=true from decide_eq_true (by omega)]
 have hd0:digB (l.getD 0 0)=false:=by by_cases e:j=0;(subst e;first|exact ltr_dig hlt|(exfalso;omega));exact hinv.2.1 (by omega)
 exact KV.loopI (z:=j) (j+1) ⟨by omega,fun _=>hd0,fun k hk=>by by_cases e:k=j;(subst e;exact hw1);exact hinv.2.2 k (by omega)⟩ (by omega) (sb rfl) (fun _ h=>h)
 refine J14 ?_
 exact KV.retP1 rfl rfl (by rw[isNm_t (by omega) (by omega) (hinv.2.1 (by omega)) (fun k hk=>hinv.2.2 k (by omega))])
theorem twice_fn {A:Option Addr} {n c:Nat} {l:List Bs} {w:World} (hs:RS w strK A l) (hn:n=l.length) (hl:l.length≤1000000):Fx Tryz.prog 78 [.slice A n c] w [] no (fun v L=>v= .bool (decide (¬l.Nodup))∧L=[]):=by
 subst hn
 refine Fb ?_
 intro I hro hI
 refine J12 ?_
 refine E0 ?_
 refine CV.loopI (fun(i:Nat)=>i≤l.length∧ ∀a b,a<b→b<i→l.getD a []≠l.getD b []) (fun(i:Nat)=>l.length-i) (fun(i:Nat)=>[(0,.slice A l.length c),(3,.int .i64 i)]) (fun(i:Nat)=>Hp I w []) (0) ⟨Nat.zero_le _,fun a b h1 h2=>by omega⟩ (sb rfl) (fun _ h=>h) ?_
 intro i hinv
 refine J6 ?_
 refine Jlt rfl rfl (fun hi=>?_) (fun hi=>?_)
 refine J13 ?_
 refine E0 ?_
 refine CV.loopI (fun(k:Nat)=>k≤i∧ ∀a,a<k→ ¬l.getD a []=l.getD i []) (fun(k:Nat)=>i-k) (fun(k:Nat)=>[(0,.slice A l.length c),(3,.int .i64 i),(4,.int .i64 k)]) (fun(k:Nat)=>Hp I w []) (0) ⟨Nat.zero_le _,fun a h1=>by omega⟩ (sb rfl) (fun _ h=>h) ?_
 intro k hinv2
 refine J5 ?_
 refine Jlt rfl rfl (fun hk=>?_) (fun hk=>?_)
 refine J8 ?_
 refine Zs ?_
 refine J8 ?_
 refine SV.split gno (Step.eqlStr rfl rfl) rfl (fun he=>?_) (fun he=>?_)
 refine SV.nil ?_
 refine J15 ?_
 refine J2 ?_
 refine E0 ?_
 exact Rb rfl rfl ⟨by rw[decide_eq_true (show ¬l.Nodup from fun h=>nodup_iff.1 h k i (by omega) (by omega) he.symm)],rfl⟩
 refine SV.nil ?_
 refine J11 ?_
 refine E0 ?_
 exact KV.loopI (z:=k) (k+1) ⟨by omega,fun a h1=>by by_cases e:a=k;(subst e;exact fun e2=>he e2.symm);exact hinv2.2 a (by omega)⟩ (by omega) (sb rfl) (fun _ h=>h)
 obtain rfl:i=k:=by omega
 refine J15 ?_
 refine E0 ?_
 exact KV.loopI (z:=i) (i+1) ⟨by omega,fun a b h1 h2=>by by_cases e:b=i;(subst e;exact fun e2=>hinv2.2 a h1 e2);exact hinv.2 a b h1 (by omega)⟩ (by omega) (sb rfl) (fun _ h=>h)
 refine J14 ?_
 refine E0 ?_
 exact Rb rfl rfl ⟨by rw[decide_eq_false (show ¬ ¬l.Nodup from fun h=>h (nodup_iff.2 fun a b h1 h2=>hinv.2 a b h1 (by omega)))],rfl⟩
theorem rgood_fn (h0:TH) (n:Nat) {w:World} (ho:RS w roK h0.A h0.t.ops):Fx Tryz.prog 122 [.agg #[.int .i64 h0.t.frm,.string (bs h0.t.ev),.bool h0.t.gd.used,.int .u64 h0.t.gd.reg,.int .u64 h0.t.gd.mask,.int .u64 h0.t.gd.val,.slice h0.A h0.t.ops.length h0.c,.int .i64 h0.t.to],.int .i64 n] w [] no (fun v L=>v= .bool (okT n h0.t)∧L=[]):=by
 refine Fb ?_
 intro I hro hI
 refine J2 ?_
 refine RV.op (Yb #[_,_,_,_,_,_,_,_] rfl rfl (fun p=>?_))
 refine J8 ?_
 refine Jlt rfl rfl (fun a1=>?_) (fun a1=>?_)
 refine J15 ?_
 refine J15 ?_
 refine J9 ?_
 refine E0 ?_
 exact KV.ret1 rfl rfl _ (fun _ h=>h) ⟨by rw[show okT n h0.t=false from bool_f (fun k=>by have k2:=(okT_iff _ _).1 k;first|(exfalso;omega)|exact ff k2.2.2.1 hnm|exact ff k2.2.2.2.1 hgd|exact ff (k2.2.2.2.2.2 j (by omega)) hro)],rfl⟩
 refine J4 ?_
 refine Jge rfl rfl (fun a2=>?_) (fun a2=>?_)
 refine J15 ?_
 refine J15 ?_
 refine J4 ?_
 refine E0 ?_
 exact KV.ret1 rfl rfl _ (fun _ h=>h) ⟨by rw[show okT n h0.t=false from bool_f (fun k=>by have k2:=(okT_iff _ _).1 k;first|(exfalso;omega)|exact ff k2.2.2.1 hnm|exact ff k2.2.2.2.1 hgd|exact ff (k2.2.2.2.2.2 j (by omega)) hro)],rfl⟩
 refine J4 ?_
 refine Jlt rfl rfl (fun a3=>?_) (fun a3=>?_)
 refine J15 ?_
 refine J14 ?_
 refine E0 ?_
 exact KV.ret1 rfl rfl _ (fun _ h=>h) ⟨by rw[show okT n h0.t=false from bool_f (fun k=>by have k2:=(okT_iff _ _).1 k;first|(exfalso;omega)|exact ff k2.2.2.1 hnm|exact ff k2.2.2.2.1 hgd|exact ff (k2.2.2.2.2.2 j (by omega)) hro)],rfl⟩
 refine J5 ?_
 refine Jge rfl rfl (fun a4=>?_) (fun a4=>?_)
 refine J15 ?_
 refine J8 ?_
 refine E0 ?_
 exact KV.ret1 rfl rfl _ (fun _ h=>h) ⟨by rw[show okT n h0.t=false from bool_f (fun k=>by have k2:=(okT_iff _ _).1 k;first|(exfalso;omega)|exact ff k2.2.2.1 hnm|exact ff k2.2.2.2.1 hgd|exact ff (k2.2.2.2.2.2 j (by omega)) hro)],rfl⟩
 refine J4 ?_
 refine RV.op (Yp rfl (risName_fn h0.t.ev) ?_)
 refine J3 ?_
 refine KV.cases 32 rfl (fun cc1=>?_) (fun cc1=>?_)
 have hnm:=neg_t cc1
 refine J15 ?_
 refine E0 ?_
 exact KV.ret1 rfl rfl _ (fun _ h=>h) ⟨by rw[show okT n h0.t=false from bool_f (fun k=>by have k2:=(okT_iff _ _).1 k;first|(exfalso;omega)|exact ff k2.2.2.1 hnm|exact ff k2.2.2.2.1 hgd|exact ff (k2.2.2.2.2.2 j (by omega)) hro)],rfl⟩
 have hnm:=neg_f cc1
 refine J3 ?_
 refine Jgt rfl rfl (fun a5=>?_) (fun a5=>?_)
 refine J11 ?_
 refine E0 ?_
 exact KV.ret1 rfl rfl _ (fun _ h=>h) ⟨by rw[show okT n h0.t=false from bool_f (fun k=>by have k2:=(okT_iff _ _).1 k;first|(exfalso;omega)|exact ff k2.2.2.1 hnm|exact ff k2.2.2.2.1 hgd|exact ff (k2.2.2.2.2.2 j (by omega)) hro)],rfl⟩
 refine J6 ?_
 refine CV.join (fun(q:{u:Unit//gdOk h0.t.gd=true})=>[(2,.pointer (some ⟨p,0,none⟩))]) (fun(q:{u:Unit//gdOk h0.t.gd=true})=>Hp I w [Blk p (.cells #[.int .i64 h0.t.frm,.string (bs h0.t.ev),.bool h0.t.gd.used,.int .u64 h0.t.gd.reg,.int .u64 h0.t.gd.mask,.int .u64 h0.t.gd.val,.slice h0.A h0.t.ops.length h0.c,.int .i64 h0.t.to] 191 (0,0))]) ?_ ?_
 refine J7 ?_
 refine KV.cases 42 rfl (fun cc2=>?_) (fun cc2=>?_)
 have hus:=neg_t cc2
 refine J3 ?_
 refine Jne rfl rfl (fun g1=>?_) (fun g1=>?_)
 refine J15 ?_
 refine J2 ?_
 have hgd:gdOk h0.t.gd=false:=(by unfold gdOk;rw[hus,Bool.false_or];exact decide_eq_false (by omega))
 refine J6 ?_
 refine E0 ?_
 exact KV.ret1 rfl rfl _ (fun _ h=>h) ⟨by rw[show okT n h0.t=false from bool_f (fun k=>by have k2:=(okT_iff _ _).1 k;first|(exfalso;omega)|exact ff k2.2.2.1 hnm|exact ff k2.2.2.2.1 hgd|exact ff (k2.2.2.2.2.2 j (by omega)) hro)],rfl⟩
 refine J4 ?_
 refine Jne rfl rfl (fun g2=>?_) (fun g2=>?_)
 refine J12 ?_
 have hgd:gdOk h0.t.gd=false:=(by unfold gdOk;rw[hus,Bool.false_or];exact decide_eq_false (by omega))
 refine J6 ?_
 refine E0 ?_
 exact KV.ret1 rfl rfl _ (fun _ h=>h) ⟨by rw[show okT n h0.t=false from bool_f (fun k=>by have k2:=(okT_iff _ _).1 k;first|(exfalso;omega)|exact ff k2.2.2.1 hnm|exact ff k2.2.2.2.1 hgd|exact ff (k2.2.2.2.2.2 j (by omega)) hro)],rfl⟩
 refine J5 ?_
 refine Jne rfl rfl (fun g3=>?_) (fun g3=>?_)
 refine J6 ?_
 have hgd:gdOk h0.t.gd=false:=(by unfold gdOk;rw[hus,Bool.false_or];exact decide_eq_false (by omega))
 refine J6 ?_
 refine E0 ?_
 exact KV.ret1 rfl rfl _ (fun _ h=>h) ⟨by rw[show okT n h0.t=false from bool_f (fun k=>by have k2:=(okT_iff _ _).1 k;first|(exfalso;omega)|exact ff k2.2.2.1 hnm|exact ff k2.2.2.2.1 hgd|exact ff (k2.2.2.2.2.2 j (by omega)) hro)],rfl⟩
 refine J7 ?_
 refine E1 ?_
 exact KV.join (⟨(),by unfold gdOk;rw[hus,Bool.false_or];exact decide_eq_true (by omega)⟩) ⟨rfl,trivial⟩ (fun _ h=>h)
 have hus:=neg_f cc2
 refine J5 ?_
 refine RV.op (OV.skipU rfl rfl ?_)
 refine RV.op (OV.skipU rfl rfl ?_)
 refine RV.op (OV.skipU rfl rfl ?_)
 refine RV.op (OV.skipU rfl rfl ?_)
 refine J2 ?_
 refine RV.op (OV.skipU rfl rfl ?_)
 refine RV.op (OV.skipU rfl rfl ?_)
 refine RV.op (OV.skipU rfl rfl ?_)
 refine RV.op (OV.skipU rfl rfl ?_)
 refine J7 ?_
 refine E1 ?_
 exact KV.join (⟨(),by unfold gdOk;rw[hus,Bool.true_or]⟩) ⟨rfl,trivial⟩ (fun _ h=>h)
 intro q
 have hgd:=q.2
 refine J7 ?_
 refine E1 ?_
 refine CV.loopI (fun(j:Nat)=>j≤h0.t.ops.length∧ ∀k,k<j→roOk (h0.t.ops.getD k ro0)=true) (fun(j:Nat)=>h0.t.ops.length-j) (fun(j:Nat)=>[(2,.pointer (some ⟨p,0,none⟩)),(5,.int .i64 j)]) (fun(j:Nat)=>Hp I w [Blk p (.cells #[.int .i64 h0.t.frm,.string (bs h0.t.ev),.bool h0.t.gd.used,.int .u64 h0.t.gd.reg,.int .u64 h0.t.gd.mask,.int .u64 h0.t.gd.val,.slice h0.A h0.t.ops.length h0.c,.int .i64 h0.t.to] 191 (0,0))]) (0) ⟨Nat.zero_le _,fun k hk=>by omega⟩ (sb rfl) (fun _ h=>h) ?_
 intro j hinv
 refine J7 ?_
 refine Jlt rfl rfl (fun hj=>?_) (fun hj=>?_)
 refine J15 ?_
 refine J2 ?_
 refine KV.cases 74 rfl (fun cc3=>?_) (fun cc3=>?_)
 have hwr:=neg_t cc3
 refine J5 ?_
 refine Jr (Tc rfl (fun w h=>(h.rs ho (fun _=>hI _)).cell (j:=2) (by omega) rfl)) ?_
 refine Jne rfl rfl (fun hv=>?_) (fun hv=>?_)
 refine J5 ?_
 have hro:roOk (h0.t.ops.getD j ro0)=false:=by unfold roOk;rw[show(h0.t.ops.getD j ro0).wr=false from hwr,Bool.false_or];exact decide_eq_false hv
 refine J10 ?_
 refine E0 ?_
 exact KV.ret1 rfl rfl _ (fun _ h=>h) ⟨by rw[show okT n h0.t=false from bool_f (fun k=>by have k2:=(okT_iff _ _).1 k;first|(exfalso;omega)|exact ff k2.2.2.1 hnm|exact ff k2.2.2.2.1 hgd|exact ff (k2.2.2.2.2.2 j (by omega)) hro)],rfl⟩
 refine J13 ?_
 refine E1 ?_
 have hr1:roOk (h0.t.ops.getD j ro0)=true:=by unfold roOk;first|(rw[show(h0.t.ops.getD j ro0).wr=true from hwr];rfl)|(rw[show(h0.t.ops.getD j ro0).wr=false from hwr,Bool.false_or];exact decide_eq_true (show(h0.t.ops.getD j ro0).val=0 from Decidable.not_not.1 hv))
 exact KV.loopI (z:=j) (j+1) ⟨by omega,fun k hk=>by by_cases e:k=j;(subst e;exact hr1);exact hinv.2 k (by omega)⟩ (by omega) (sb rfl) (fun _ h=>h)
 have hwr:=neg_f cc3
 refine J15 ?_
 refine J5 ?_
 refine E1 ?_
 have hr1:roOk (h0.t.ops.getD j ro0)=true:=by unfold roOk;first|(rw[show(h0.t.ops.getD j ro0).wr=true from hwr];rfl)|(rw[show(h0.t.ops.getD j ro0).wr=false from hwr,Bool.false_or];exact decide_eq_true (show(h0.t.ops.getD j ro0).val=0 from Decidable.not_not.1 hv))
 exact KV.loopI (z:=j) (j+1) ⟨by omega,fun k hk=>by by_cases e:k=j;(subst e;exact hr1);exact hinv.2 k (by omega)⟩ (by omega) (sb rfl) (fun _ h=>h)
 refine J14 ?_
 refine E0 ?_
 exact KV.ret1 rfl rfl _ (fun _ h=>h) ⟨by rw[show okT n h0.t=true from(okT_iff _ _).2 ⟨by omega,by omega,hnm,hgd,by omega,fun k hk=>hinv.2 k (by omega)⟩],rfl⟩
end Go.Proofs.YtkofjhglgoojiaaGreatDoor.Dv
