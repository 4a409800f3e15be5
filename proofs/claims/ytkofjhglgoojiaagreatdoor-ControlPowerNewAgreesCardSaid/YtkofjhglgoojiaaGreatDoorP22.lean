/-
  Joined.
-/
import Derived.Test.YtkofjhglgoojiaaGreatDoorP21
set_option linter.unusedSimpArgs false
set_option linter.unusedVariables false
namespace Go.Proofs.YtkofjhglgoojiaaGreatDoor.Pw
set_option maxRecDepth 100000
set_option maxHeartbeats 20000000
open Go.Tk Go.Sv Go.Rails Go.Dg Go.Pw
attribute [local irreducible] KV SV OV Step Code.wp wpList Exit.then Exit.inBlock Blk OS Big Bun
theorem remove_fn {A:Option Addr} {c:Nat} {links:List Link} (n:Nat) {w:World} (hr:RS w linkK A links) (hl:links.length≤1024) (hn:n≤128) (hok: ∀i,i<links.length→okL n (links.getD i linkK.d)):Fx Tryz.prog 83 [.int .i64 n,.slice A links.length c] w [] no (fun v L=> ∃A2 c2 A3,v= .tuple #[.slice A2 (remM n links).1.length c2,.slice A3 n n]∧L=[OS 3 (intK .i64) A2 c2 (remM n links).1,OS 4 bolK A3 n (remM n links).2]):=by
 refine Fb ?_
 intro I hro hI
 refine J12 ?_
 refine KV.heap (fun w h=>h.nilOS (e:=3) (K:=intK .i64)) ?_
 refine J2 ?_
 refine RV.op (Ym (K:=bolK) (n) (n) (false) rfl rfl rfl rfl (fun A1=>?_))
 refine J4 ?_
 refine E2 ?_
 refine CV.loop2 (fun(g:List Bool) (o:Hd)=>RmI links n g o.ys) (fun(g:List Bool) (o:Hd)=>g.count false) (fun(g:List Bool) (o:Hd)=>[(0,.int .i64 n),(1,.slice A links.length c),(6,.slice o.A o.ys.length o.c),(7,.slice A1 n n)]) (fun(g:List Bool) (o:Hd)=>Hp I w [OS 3 (intK .i64) o.A o.c o.ys,OS 4 bolK A1 n g]) (List.replicate n false) (⟨none,0,[]⟩) (RmI.start _ _) (sb rfl) (fun _ h=>h) ?_
 intro g o hinv
 have hgl:=hinv.len
 refine J15 ?_
 refine E2 ?_
 refine CV.loopI (fun(x:Nat)=>x≤n) (fun(x:Nat)=>n-x) (fun(x:Nat)=>[(0,.int .i64 n),(1,.slice A links.length c),(6,.slice o.A o.ys.length o.c),(7,.slice A1 n n),(8,.int .i64 (dnM (freeB links g) n x)),(9,.int .i64 ((n:Int)-1-x))]) (fun(x:Nat)=>Hp I w [OS 3 (intK .i64) o.A o.c o.ys,OS 4 bolK A1 n g]) (0) (Nat.zero_le _) ⟨rfl,rfl,rfl,rfl,rfl,(show some (Value.int .i64 _)=some (Value.int .i64 _) by congr 2;omega),trivial⟩ (fun _ h=>h) ?_
 intro x hinv2
 refine J4 ?_
 refine Jge rfl rfl (fun cc1=>?_) (fun cc1=>?_)
 refine J8 ?_
 obtain⟨i,hi⟩: ∃i:Nat,i=n-1-x:=⟨_,rfl⟩
 have hii:(n:Int)-1-x=(i:Int):=by omega
 have hin:i<n:=by omega
 rw[hii]
 refine J15 ?_
 refine J1 ?_
 refine E2 ?_
 refine CV.loopI (fun(k:Nat)=>k≤links.length) (fun(k:Nat)=>links.length-k) (fun(k:Nat)=>[(0,.int .i64 n),(1,.slice A links.length c),(6,.slice o.A o.ys.length o.c),(7,.slice A1 n n),(8,.int .i64 (dnM (freeB links g) n x)),(9,.int .i64 i),(10,.bool (frB links g i k)),(11,.int .i64 k)]) (fun(k:Nat)=>Hp I w [OS 3 (intK .i64) o.A o.c o.ys,OS 4 bolK A1 n g]) (0) (Nat.zero_le _) ⟨rfl,rfl,rfl,rfl,rfl,rfl,(show some (Value.bool _)=some (Value.bool _) by rw[frB_zero];rfl),rfl,trivial⟩ (fun _ h=>h) ?_
 intro k hinv3
 refine J6 ?_
 refine Jlt rfl rfl (fun cc2=>?_) (fun cc2=>?_)
 refine J5 ?_
 refine KV.cases 31 rfl (fun cc3=>?_) (fun cc3=>?_)
 have hfr:frB links g i k=true:=cc3
 refine J6 ?_
 obtain⟨j,hj2⟩:=Int.eq_ofNat_of_zero_le (hok k (by omega)).2.1
 have hj3:=(hok k (by omega)).2.2
 rw[hj2] at hj3
 refine J7 ?_
 refine Jeq rfl rfl (fun hcon=>?_) (fun hcon=>?_)
 refine J7 ?_
 refine Jr (Ti (fun w h=>h.os 1 rfl) rfl rfl (by first|rfl|omega) _ hj2 (by omega)) ?_
 refine J5 ?_
 refine KV.cases 51 rfl (fun cc4=>?_) (fun cc4=>?_)
 have hgj:g.getD j false=false:=by rw[Bool.not_eq_true'] at cc4;exact cc4
 refine J12 ?_
 refine E2 ?_
 exact KV.loopI (z:=k) (k+1) (by omega) (by omega) ⟨rfl,rfl,rfl,rfl,rfl,rfl,(congrArg (fun b=>some (Value.bool b)) ((frB_s1 (by omega) hfr hcon hj2).trans hgj).symm),rfl,trivial⟩ (fun _ h=>h)
 have hgj:g.getD j false=true:=by rw[Bool.not_eq_false'] at cc4;exact cc4
 refine J10 ?_
 refine E2 ?_
 exact KV.loopI (z:=k) (k+1) (by omega) (by omega) ⟨rfl,rfl,rfl,rfl,rfl,rfl,(congrArg (fun b=>some (Value.bool b)) (hfr.trans ((frB_s1 (by omega) hfr hcon hj2).trans hgj).symm)),rfl,trivial⟩ (fun _ h=>h)
 refine J15 ?_
 refine J8 ?_
 refine E2 ?_
 exact KV.loopI (z:=k) (k+1) (by omega) (by omega) ⟨rfl,rfl,rfl,rfl,rfl,rfl,(congrArg (fun b=>some (Value.bool b)) (hfr.trans (frB_s0 (by omega) hfr hcon).symm)),rfl,trivial⟩ (fun _ h=>h)
 have hfr:frB links g i k=false:=cc3
 refine J11 ?_
 refine KV.cases 52 rfl (fun cc5=>?_) (fun cc5=>?_)
 have hfree:freeB links g i=true:=by first|(exfalso;rw[hfr] at cc5;exact absurd cc5 (by simp))|(rw[←frB_len];have e:k=links.length:=(by omega);rw[←e];exact cc5)
 refine J13 ?_
 refine E2 ?_
 exact KV.loopI (z:=x) (x+1) (by omega) (by omega) ⟨rfl,rfl,rfl,rfl,(show some (Value.int .i64 _)=some (Value.int .i64 _) by rw[dn_yes (by rw[←hi];exact hfree),←hi]),(show some (Value.int .i64 _)=some (Value.int .i64 _) by congr 2;omega),trivial⟩ (fun _ h=>h)
 have hfree:freeB links g i=false:=by first|exact frB_no hfr (by omega)|exact frB_no cc5 (by omega)
 refine J10 ?_
 refine E2 ?_
 exact KV.loopI (z:=x) (x+1) (by omega) (by omega) ⟨rfl,rfl,rfl,rfl,(show some (Value.int .i64 _)=some (Value.int .i64 _) by rw[dn_no (by rw[←hi];exact hfree)]),(show some (Value.int .i64 _)=some (Value.int .i64 _) by congr 2;omega),trivial⟩ (fun _ h=>h)
 refine J15 ?_
 refine J1 ?_
 refine KV.cases 52 rfl (fun cc6=>?_) (fun cc6=>?_)
 have hfree:freeB links g i=true:=by first|(exfalso;rw[hfr] at cc6;exact absurd cc6 (by simp))|(rw[←frB_len];have e:k=links.length:=(by omega);rw[←e];exact cc6)
 refine J13 ?_
 refine E2 ?_
 exact KV.loopI (z:=x) (x+1) (by omega) (by omega) ⟨rfl,rfl,rfl,rfl,(show some (Value.int .i64 _)=some (Value.int .i64 _) by rw[dn_yes (by rw[←hi];exact hfree),←hi]),(show some (Value.int .i64 _)=some (Value.int .i64 _) by congr 2;omega),trivial⟩ (fun _ h=>h)
 have hfree:freeB links g i=false:=by first|exact frB_no hfr (by omega)|exact frB_no cc6 (by omega)
 refine J10 ?_
 refine E2 ?_
 exact KV.loopI (z:=x) (x+1) (by omega) (by omega) ⟨rfl,rfl,rfl,rfl,(show some (Value.int .i64 _)=some (Value.int .i64 _) by rw[dn_no (by rw[←hi];exact hfree)]),(show some (Value.int .i64 _)=some (Value.int .i64 _) by congr 2;omega),trivial⟩ (fun _ h=>h)
 refine J10 ?_
 obtain rfl:x=n:=by omega
 have hbd:=dn_bd (freeB links g) x x (Nat.le_refl _)
 refine J2 ?_
 refine Jlt rfl rfl (fun cc7=>?_) (fun cc7=>?_)
 refine J15 ?_
 refine J1 ?_
 refine E2 ?_
 have hst:=hinv.stop (by omega)
 rw[hst]
 exact Rc rfl rfl rfl ⟨_,_,_,rfl,rfl⟩
 refine J6 ?_
 obtain⟨i,hi⟩:=Int.eq_ofNat_of_zero_le (show 0≤dnM (freeB links g) x x by omega)
 have hnx:=hinv.next hi
 have hfi:=RmI.fr hi
 have hct:=hinv.cnt
 rw[hi]
 refine J4 ?_
 refine RV.op (Yx 1 (i) (true) (j:=0) [_] rfl rfl rfl rfl rfl (by omega) rfl ?_)
 refine J5 ?_
 refine RV.op (OV.buildSlice (K:=(intK .i64)) ([_]) rfl (Bs32_1_0 _) rfl rfl (by omega) gno rfl (fun b18_2=>?_))
 refine RV.op (Ye 0 rfl rfl rfl rfl rfl (fun w h=>h.os 2 rfl) (by simp only[List.length_cons,List.length_nil];omega) (fun b18_3a b18_3c=>?_))
 refine J4 ?_
 refine E2 ?_
 exact KV.loop2 (x:=g) (y:=o) (g.set i true) (⟨b18_3a,b18_3c,o.ys++[(i:Int)]⟩) hnx.1 (hnx.2) (sb rfl) (fun _ h=>h)
theorem rcheck_fn {A:Option Addr} {c:Nat} {links:List Link} (n:Nat) {w:World} (hr:RS w linkK A links) (hl:links.length≤1000000):Fx Tryz.prog 82 [.int .i64 n,.slice A links.length c] w [] no (fun v L=>v= .int .i64 (chkM n links)∧L=[]):=by
 refine Fb ?_
 intro I hro hI
 refine J10 ?_
 refine RV.op (Yc [] (F:=[]) rfl rfl (fun w h=>basic_fn n (h.rs hr (fun _=>hI _)) hl) (fun v L' hp=>?_))
 obtain⟨rfl,rfl⟩:=hp
 refine J6 ?_
 refine Jne rfl rfl (fun hc=>?_) (fun hc=>?_)
 refine J11 ?_
 refine E0 ?_
 exact Rb rfl rfl ⟨by rw[chkM_dup hc],rfl⟩
 have hc0:=Decidable.not_not.1 hc
 have hcl:=clM_zero hc0
 refine J9 ?_
 refine RV.op (Yc [] (F:=[]) rfl rfl (fun w h=>matrix_fn n (h.rs hr (fun _=>hI _)) hcl.2.1 hcl.1 hcl.2.2) (fun v L' hp=>?_))
 obtain⟨A2,rows,rfl,rfl,hMI⟩:=hp
 have hln:=hMI.1
 have hla: ∀x,x<n→(rows.getD x brD).ys.length=n:=fun x hx=>(hMI.2 x hx).1
 refine J10 ?_
 refine E2 ?_
 refine CV.loopI (fun(i:Nat)=>i≤n∧ ∀a,a<i→wI links n a a=false) (fun(i:Nat)=>n-i) (fun(i:Nat)=>[(0,.int .i64 n),(6,.slice A2 n n),(7,.int .i64 i)]) (fun(i:Nat)=>Hp I w [OS 123 brK A2 n rows,Big brF rows]) (0) ⟨Nat.zero_le _,fun _ h=>by omega⟩ (sb rfl) (fun _ h=>h) ?_
 intro i hinv
 refine J5 ?_
 refine Jlt rfl rfl (fun cc1=>?_) (fun cc1=>?_)
 refine J8 ?_
 have hlx:=hla i (by omega)
 refine J6 ?_
 refine Jr (Ti (fun w h=>(h.bigOS (k:=1) (m:=i) (G:=fun b w=>RS w bolK b.A b.ys) brD rfl (by omega) brRS)) rfl rfl (by first|rfl|omega) _ rfl (by omega)) ?_
 refine Jr (Tc rfl (fun w h=>(h.bigOS (k:=1) (m:=i) (G:=fun b w=>RS w bolK b.A b.ys) brD rfl (by omega) brRS).cell0 (by omega) rfl)) ?_
 refine J2 ?_
 refine KV.cases 28 rfl (fun cc2=>?_) (fun cc2=>?_)
 have hw:wI links n i i=true:=by rw[←(hMI.2 i (by omega)).2 i (by omega)];exact cc2
 refine J12 ?_
 refine E0 ?_
 exact Rb rfl rfl ⟨by rw[chkM_loop hc0 (by omega) hw],rfl⟩
 have hw:wI links n i i=false:=by rw[←(hMI.2 i (by omega)).2 i (by omega)];exact cc2
 refine J10 ?_
 refine E2 ?_
 exact KV.loopI (z:=i) (i+1) ⟨by omega,fun a ha=>by by_cases e:a=i;(subst e;exact hw);exact hinv.2 a (by omega)⟩ (by omega) (sb rfl) (fun _ h=>h)
 refine J14 ?_
 refine E0 ?_
 exact Rb rfl rfl ⟨by rw[chkM_free hc0 (fun a ha=>hinv.2 a (by omega))],rfl⟩
theorem rorder_fn {A:Option Addr} {c:Nat} {links:List Link} (n:Nat) {w:World} (hr:RS w linkK A links) (hl:links.length≤1000000):Fx Tryz.prog 42 [.int .i64 n,.slice A links.length c] w [] no (fun v L=>(chkM n links=0→ ∃A2 c2,v= .tuple #[.slice A2 n c2,.int .i64 0]∧L=[OS 3 (intK .i64) A2 c2 (seqM n links)])∧(chkM n links≠0→v= .tuple #[.slice none 0 0,.int .i64 (chkM n links)]∧L=[])):=by
 refine Fb ?_
 intro I hro hI
 refine J11 ?_
 refine RV.op (Yc [] (F:=[]) rfl rfl (fun w h=>rcheck_fn n (h.rs hr (fun _=>hI _)) hl) (fun v L' hp=>?_))
 obtain⟨rfl,rfl⟩:=hp
 refine J6 ?_
 refine Jne rfl rfl (fun hc=>?_) (fun hc=>?_)
 refine J12 ?_
 refine E0 ?_
 exact Rc rfl rfl rfl ⟨fun h0=>absurd h0 hc,fun _=>⟨rfl,rfl⟩⟩
 have hc0:=Decidable.not_not.1 hc
 have hcl:=clM_zero (chkM_ok hc0)
 refine J9 ?_
 refine RV.op (Yc [] (F:=[]) rfl rfl (fun w h=>remove_fn n (h.rs hr (fun _=>hI _)) hcl.2.1 hcl.1 hcl.2.2) (fun v L' hp=>?_))
 obtain⟨A2,c2,A3,rfl,rfl⟩:=hp
 refine J15 ?_
 refine E1 ?_
 rw[←seq_rem hcl.2.2,seq_len hc0]
 exact Rc rfl rfl rfl ⟨fun _=>⟨_,_,rfl,rfl⟩,fun h0=>absurd hc0 h0⟩
theorem ascD_fn {A:Option Addr} {n c:Nat} {ys:List Int} {w:World} (hr:RS w (intK .i64) A ys) (hl:ys.length≤1000000) (hn:n=ys.length):Fx Tryz.prog 171 [.slice A n c] w [] no (fun v L=>v= .bool (decide (ascP ys))∧L=[]):=by
 subst hn
 refine Fb ?_
 intro I hro hI
 refine J12 ?_
 refine E0 ?_
 refine CV.loopI (fun(i:Nat)=>1≤i∧(i≤ys.length∨i=1)∧ ∀j,j<i→0<j→ys.getD (j-1) (intK .i64).d<ys.getD (j) (intK .i64).d) (fun(i:Nat)=>ys.length-i) (fun(i:Nat)=>[(0,.slice A ys.length c),(3,.int .i64 i)]) (fun(i:Nat)=>Hp I w []) (1) ⟨by omega,by omega,fun _ h1 h2=>by omega⟩ (sb rfl) (fun _ h=>h) ?_
 intro i hinv
 refine J6 ?_
 refine Jlt rfl rfl (fun cc1=>?_) (fun cc1=>?_)
 refine J8 ?_
 refine Zs ?_
 refine J3 ?_
 refine Sr (Tc rfl (fun w h=>(h.rs hr (fun _=>hI _)).cell0 (by omega) rfl)) ?_
 refine J3 ?_
 refine Sr (Ti (fun w h=>h.rs hr (fun _=>hI _)) rfl rfl (rfl) _ (show(i:Int)-1=((i-1:Nat):Int) by omega) (by omega)) ?_
 refine Sr (Tc rfl (fun w h=>(h.rs hr (fun _=>hI _)).cell0 (by omega) rfl)) ?_
 refine SV.split gno (Step.leq rfl rfl) rfl (fun hle=>?_) (fun hle=>?_)
 refine SV.nil ?_
 refine J13 ?_
 refine E0 ?_
 exact Rb rfl rfl ⟨by rw[decide_eq_false (fun h=>by have h1:=h i (by omega) (by omega);omega)],rfl⟩
 refine SV.nil ?_
 refine J11 ?_
 refine E0 ?_
 exact KV.loopI (z:=i) (i+1) ⟨by omega,by omega,fun j hj hp=>by by_cases e:j=i;(subst e;omega);exact hinv.2.2 j (by omega) hp⟩ (by omega) (sb rfl) (fun _ h=>h)
 refine J14 ?_
 refine E0 ?_
 exact Rb rfl rfl ⟨by rw[decide_eq_true (show ascP ys from fun j hj hp=>hinv.2.2 j (by omega) hp)],rfl⟩
theorem ascR_fn {A:Option Addr} {n c:Nat} {ys:List Int} {w:World} (hr:RS w (intK .i64) A ys) (hl:ys.length≤1000000) (hn:n=ys.length):Fx Tryz.prog 155 [.slice A n c] w [] no (fun v L=>v= .bool (decide (ascP ys))∧L=[]):=by
 subst hn
 refine Fb ?_
 intro I hro hI
 refine J12 ?_
 refine E0 ?_
 refine CV.loopI (fun(i:Nat)=>1≤i∧(i≤ys.length∨i=1)∧ ∀j,j<i→0<j→ys.getD (j-1) (intK .i64).d<ys.getD (j) (intK .i64).d) (fun(i:Nat)=>ys.length-i) (fun(i:Nat)=>[(0,.slice A ys.length c),(3,.int .i64 i)]) (fun(i:Nat)=>Hp I w []) (1) ⟨by omega,by omega,fun _ h1 h2=>by omega⟩ (sb rfl) (fun _ h=>h) ?_
 intro i hinv
 refine J6 ?_
 refine Jlt rfl rfl (fun cc1=>?_) (fun cc1=>?_)
 refine J8 ?_
 refine Zs ?_
 refine J3 ?_
 refine Sr (Tc rfl (fun w h=>(h.rs hr (fun _=>hI _)).cell0 (by omega) rfl)) ?_
 refine J3 ?_
 refine Sr (Ti (fun w h=>h.rs hr (fun _=>hI _)) rfl rfl (rfl) _ (show(i:Int)-1=((i-1:Nat):Int) by omega) (by omega)) ?_
 refine Sr (Tc rfl (fun w h=>(h.rs hr (fun _=>hI _)).cell0 (by omega) rfl)) ?_
 refine SV.split gno (Step.leq rfl rfl) rfl (fun hle=>?_) (fun hle=>?_)
 refine SV.nil ?_
 refine J13 ?_
 refine E0 ?_
 exact Rb rfl rfl ⟨by rw[decide_eq_false (fun h=>by have h1:=h i (by omega) (by omega);omega)],rfl⟩
 refine SV.nil ?_
 refine J11 ?_
 refine E0 ?_
 exact KV.loopI (z:=i) (i+1) ⟨by omega,by omega,fun j hj hp=>by by_cases e:j=i;(subst e;omega);exact hinv.2.2 j (by omega) hp⟩ (by omega) (sb rfl) (fun _ h=>h)
 refine J14 ?_
 refine E0 ?_
 exact Rb rfl rfl ⟨by rw[decide_eq_true (show ascP ys from fun j hj hp=>hinv.2.2 j (by omega) hp)],rfl⟩
theorem nan_fn (x:Int) {w:World}:Fx Tryz.prog 202 [.int .i64 x] w [] no (fun v L=>v= .bool false∧L=[]):=by
 refine Fb ?_
 intro I hro hI
 refine J9 ?_
 refine Jne rfl rfl (fun hx=>?_) (fun hx=>?_)
 exact absurd rfl hx
 refine J4 ?_
 refine E0 ?_
 exact Rb rfl rfl ⟨rfl,rfl⟩
theorem less_fn (x y:Int) {w:World}:Fx Tryz.prog 188 [.int .i64 x,.int .i64 y] w [] no (fun v L=>v= .bool (decide (x<y))∧L=[]):=by
 refine Fb ?_
 intro I hro hI
 refine J8 ?_
 refine RV.op (Yc [] (F:=[]) rfl rfl (fun w h=>nan_fn _) (fun v L' hp=>?_))
 obtain⟨rfl,rfl⟩:=hp
 refine J8 ?_
 refine Jlt rfl rfl (fun hxy=>?_) (fun hxy=>?_)
 refine J5 ?_
 refine E0 ?_
 exact Rb rfl rfl ⟨by first|rw[decide_eq_true hxy]|rw[decide_eq_false hxy],rfl⟩
 refine J5 ?_
 refine E0 ?_
 exact Rb rfl rfl ⟨by first|rw[decide_eq_true hxy]|rw[decide_eq_false hxy],rfl⟩
theorem sorted_fn {A:Option Addr} {n c:Nat} {ys:List Int} {w:World} (hr:RS w (intK .i64) A ys) (hl:ys.length≤1000000) (hn:n=ys.length):Fx Tryz.prog 172 [.slice A n c] w [] no (fun v L=>v= .bool (decide (srtP ys))∧L=[]):=by
 subst hn
 refine Fb ?_
 intro I hro hI
 refine J15 ?_
 refine E0 ?_
 refine CV.loopI (fun(x:Nat)=>x≤ys.length∧ ∀j,ys.length-1-x<j→j<ys.length→ys.getD (j-1) (intK .i64).d≤ys.getD (j) (intK .i64).d) (fun(x:Nat)=>ys.length-x) (fun(x:Nat)=>[(0,.slice A ys.length c),(3,.int .i64 ((ys.length:Int)-1-x))]) (fun(x:Nat)=>Hp I w []) (0) ⟨Nat.zero_le _,fun _ h1 h2=>by omega⟩ ⟨rfl,(congrArg (fun z=>some (Value.int .i64 z)) (by omega)),trivial⟩ (fun _ h=>h) ?_
 intro x hinv
 refine J4 ?_
 refine Jgt rfl rfl (fun cc1=>?_) (fun cc1=>?_)
 refine J8 ?_
 obtain⟨i,hi⟩: ∃i:Nat,i=ys.length-1-x:=⟨_,rfl⟩
 have hii:(ys.length:Int)-1-x=(i:Int):=by omega
 rw[hii]
 refine An (Hp I w []) 10 ?_
 refine W 0 ?_
 refine W 1 ?_
 refine W 2 ?_
 refine Vt 3 rfl (Tc rfl (fun w h=>(h.rs hr (fun _=>hI _)).cell0 (by omega) rfl)) (fun _ h=>h.sel [] rfl) ?_
 refine W 4 ?_
 refine W 5 ?_
 refine W 6 ?_
 refine Wt 7 rfl (Ti (fun w h=>h.rs hr (fun _=>hI _)) rfl rfl (rfl) _ (show(i:Int)-1=((i-1:Nat):Int) by omega) (by omega)) ?_
 refine Vt 8 rfl (Tc rfl (fun w h=>(h.rs hr (fun _=>hI _)).cell0 (by omega) rfl)) (fun _ h=>h.sel [] rfl) ?_
 refine V1 9 ?_
 refine Yc [] (F:=[]) rfl rfl (fun w h=>less_fn _ _) (fun v L' hp=>?_)
 obtain⟨rfl,rfl⟩:=hp
 refine Wn ?_
 refine Vd ?_
 refine J1 ?_
 refine KV.cases 20 rfl (fun cc2=>?_) (fun cc2=>?_)
 have hlt:=of_decide_eq_true cc2
 refine J12 ?_
 refine E0 ?_
 exact Rb rfl rfl ⟨by rw[decide_eq_false (fun h=>by have h1:=h i (by omega) (by omega);omega)],rfl⟩
 have hlt:=of_decide_eq_false cc2
 refine J10 ?_
 refine E0 ?_
 exact KV.loopI (z:=x) (x+1) ⟨by omega,fun j hj hp=>by by_cases e:j=i;(subst e;omega);exact hinv.2 j (by omega) hp⟩ (by omega) ⟨rfl,(congrArg (fun z=>some (Value.int .i64 z)) (by omega)),trivial⟩ (fun _ h=>h)
 refine J14 ?_
 refine E0 ?_
 exact Rb rfl rfl ⟨by rw[decide_eq_true (show srtP ys from fun j hj hp=>hinv.2 j (by omega) hj)],rfl⟩
theorem deep_fn (d:PDv) {w:World}:Fx Tryz.prog 147 [.agg (pdK.f d).toArray] w [] no (fun v L=>v= .bool (decide (deepOk d))∧L=[]):=by
 refine Fb ?_
 intro I hro hI
 refine J2 ?_
 refine RV.op (Yb #[_,_,_,_,_,_,_,_,_,_,_,_,_] rfl rfl (fun b0_0=>?_))
 refine J7 ?_
 refine Jr (Step.idxArr Tryz.underlying34 I3.h rfl rfl _ rfl (by first|omega|decide)) ?_
 refine J1 ?_
 refine Jne rfl rfl (fun h0=>?_) (fun h0=>?_)
 refine J15 ?_
 refine J1 ?_
 refine E0 ?_
 exact Rb rfl rfl ⟨by first|rw[decide_eq_true (show deepOk d from⟨Decidable.not_not.1 h0,hs,h5⟩)]|rw[decide_eq_false (fun h:deepOk d=>h0 h.1)]|rw[decide_eq_false (fun h:deepOk d=>hs h.2.1)]|rw[decide_eq_false (fun h:deepOk d=>h5 h.2.2)],rfl⟩
 refine J2 ?_
 refine Jr (Step.sliceArr Tryz.underlying34 I3.h rfl) ?_
 refine RV.op (Yc [] (F:=[_]) rfl rfl (fun w h=>sorted_fn (RS.inBlk (h.blk 0 rfl) (dl_cells d)) (by show 6≤1000000;decide) rfl) (fun v L' hp=>?_))
 obtain⟨rfl,rfl⟩:=hp
 refine J4 ?_
 refine KV.cases 12 rfl (fun cc1=>?_) (fun cc1=>?_)
 have hs:=of_decide_eq_false (by rw[Bool.not_eq_true'] at cc1;exact cc1)
 refine J8 ?_
 refine E0 ?_
 exact Rb rfl rfl ⟨by first|rw[decide_eq_true (show deepOk d from⟨Decidable.not_not.1 h0,hs,h5⟩)]|rw[decide_eq_false (fun h:deepOk d=>h0 h.1)]|rw[decide_eq_false (fun h:deepOk d=>hs h.2.1)]|rw[decide_eq_false (fun h:deepOk d=>h5 h.2.2)],rfl⟩
 have hs:=of_decide_eq_true (by rw[Bool.not_eq_false'] at cc1;exact cc1)
 refine J6 ?_
 refine Jr (Step.idxArr Tryz.underlying34 I3.h rfl rfl _ rfl (by first|omega|decide)) ?_
 refine J1 ?_
 refine Jle rfl rfl (fun h5=>?_) (fun h5=>?_)
 refine J4 ?_
 refine E0 ?_
 exact Rb rfl rfl ⟨by first|rw[decide_eq_true (show deepOk d from⟨Decidable.not_not.1 h0,hs,h5⟩)]|rw[decide_eq_false (fun h:deepOk d=>h0 h.1)]|rw[decide_eq_false (fun h:deepOk d=>hs h.2.1)]|rw[decide_eq_false (fun h:deepOk d=>h5 h.2.2)],rfl⟩
 refine J4 ?_
 refine E0 ?_
 exact Rb rfl rfl ⟨by first|rw[decide_eq_true (show deepOk d from⟨Decidable.not_not.1 h0,hs,h5⟩)]|rw[decide_eq_false (fun h:deepOk d=>h0 h.1)]|rw[decide_eq_false (fun h:deepOk d=>hs h.2.1)]|rw[decide_eq_false (fun h:deepOk d=>h5 h.2.2)],rfl⟩
end Go.Proofs.YtkofjhglgoojiaaGreatDoor.Pw
