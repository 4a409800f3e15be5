/-
  Joined.
-/
import Derived.Test.YtkofjhglgoojiaaGreatDoorP06
import Derived.Test.YtkofjhglgoojiaaGreatDoorP20
set_option linter.unusedSimpArgs false
set_option linter.unusedVariables false
namespace Go.Proofs.YtkofjhglgoojiaaGreatDoor.Pw
set_option maxRecDepth 100000
set_option maxHeartbeats 20000000
open Go.Tk Go.Sv Go.Rails Go.Dg Go.Pw
attribute [local irreducible] KV SV OV Step Code.wp wpList Exit.then Exit.inBlock Blk OS Big Bun
theorem order_fn {A:Option Addr} {c:Nat} {links:List Link} (n:Nat) {w:World} (hr:RS w linkK A links) (hl:links.length≤1000000):Fx Tryz.prog 62 [.int .i64 n,.slice A links.length c] w [] no (fun v L=>(chkM n links=0→ ∃A2 c2,v= .tuple #[.slice A2 n c2,.int .i64 0]∧L=[OS 3 (intK .i64) A2 c2 (seqM n links)])∧(chkM n links≠0→v= .tuple #[.slice none 0 0,.int .i64 (chkM n links)]∧L=[])):=by
 refine Fb ?_
 intro I hro hI
 refine J11 ?_
 refine RV.op (Yc [] (F:=[]) rfl rfl (fun w h=>Rl.checkLinks_fn n (h.rs hr (fun _=>hI _)) hl) (fun v L' hp=>?_))
 obtain⟨rfl,rfl⟩:=hp
 refine J6 ?_
 refine Jne rfl rfl (fun hc=>?_) (fun hc=>?_)
 refine J12 ?_
 refine E0 ?_
 have hE:chkM n links=clM n links:=by rw[chkM,if_pos hc]
 exact Rc rfl rfl rfl ⟨fun h0=>absurd h0 (by rw[hE];first|decide|assumption),fun _=>⟨by rw[hE],rfl⟩⟩
 have hcl:=clM_zero (Decidable.not_not.1 hc)
 refine J9 ?_
 refine RV.op (Yc [] (F:=[]) rfl rfl (fun w h=>Rl.sequence_fn n (h.rs hr (fun _=>hI _)) hcl.2.1 hcl.1 hcl.2.2) (fun v L' hp=>?_))
 obtain⟨A2,c2,rfl,rfl⟩:=hp
 refine J9 ?_
 refine Jne rfl rfl (fun hs=>?_) (fun hs=>?_)
 refine J11 ?_
 refine E0 ?_
 have hE:chkM n links=18:=by rw[chkM,if_neg hc,if_pos hs]
 exact Rc rfl rfl rfl ⟨fun h0=>absurd h0 (by rw[hE];first|decide|assumption),fun _=>⟨by rw[hE],rfl⟩⟩
 refine J13 ?_
 refine E1 ?_
 have hE:chkM n links=0:=by rw[chkM,if_neg hc,if_neg hs]
 have hln:(seqM n links).length=n:=by omega
 rw[hln]
 exact Rc rfl rfl rfl ⟨fun _=>⟨_,_,rfl,rfl⟩,fun h0=>absurd hE h0⟩
theorem invalid_fn {A:Option Addr} {c:Nat} {links:List Link} (n:Int) {w:World} (hr:RS w linkK A links) (hl:links.length≤1000000):Fx Tryz.prog 156 [.int .i64 n,.slice A links.length c] w [] no (fun v L=>v= .bool (invB n links)∧L=[]):=by
 refine Fb ?_
 intro I hro hI
 refine J9 ?_
 refine Jlt rfl rfl (fun cc1=>?_) (fun cc1=>?_)
 refine J15 ?_
 refine J4 ?_
 refine E0 ?_
 exact Rb rfl rfl ⟨by rw[←invB_far (n:=n) (links:=links) (by omega)],rfl⟩
 refine J2 ?_
 refine Jgt rfl rfl (fun cc2=>?_) (fun cc2=>?_)
 refine J15 ?_
 refine J1 ?_
 refine E0 ?_
 exact Rb rfl rfl ⟨by rw[←invB_far (n:=n) (links:=links) (by omega)],rfl⟩
 refine J4 ?_
 refine Jgt rfl rfl (fun cc3=>?_) (fun cc3=>?_)
 refine J11 ?_
 refine E0 ?_
 exact Rb rfl rfl ⟨by rw[←invB_far (n:=n) (links:=links) (by omega)],rfl⟩
 refine J13 ?_
 refine E0 ?_
 refine CV.loopI (fun(j:Nat)=>j≤links.length∧ ∀i,i<j→okL n (links.getD i linkK.d)) (fun(j:Nat)=>links.length-j) (fun(j:Nat)=>[(0,.int .i64 n),(1,.slice A links.length c),(5,.int .i64 j)]) (fun(j:Nat)=>Hp I w []) (0) ⟨Nat.zero_le _,fun _ h=>by omega⟩ (sb rfl) (fun _ h=>h) ?_
 intro j hinv
 refine J6 ?_
 refine Jlt rfl rfl (fun cc4=>?_) (fun cc4=>?_)
 refine J13 ?_
 refine Jr (Tc rfl (fun w h=>(h.rs hr (fun _=>hI _)).cell (by omega) rfl)) ?_
 refine Jlt rfl rfl (fun cc5=>?_) (fun cc5=>?_)
 refine J15 ?_
 refine J15 ?_
 refine J10 ?_
 refine E0 ?_
 exact Rb rfl rfl ⟨by rw[←invB_at (n:=n) (links:=links) (j:=j) (by omega) (by unfold okL;omega)],rfl⟩
 refine J5 ?_
 refine Jr (Tc rfl (fun w h=>(h.rs hr (fun _=>hI _)).cell (by omega) rfl)) ?_
 refine J1 ?_
 refine Jge rfl rfl (fun cc6=>?_) (fun cc6=>?_)
 refine J15 ?_
 refine J15 ?_
 refine J2 ?_
 refine E0 ?_
 exact Rb rfl rfl ⟨by rw[←invB_at (n:=n) (links:=links) (j:=j) (by omega) (by unfold okL;omega)],rfl⟩
 refine J6 ?_
 refine Jr (Tc rfl (fun w h=>(h.rs hr (fun _=>hI _)).cell (by omega) rfl)) ?_
 refine Jlt rfl rfl (fun cc7=>?_) (fun cc7=>?_)
 refine J15 ?_
 refine J9 ?_
 refine E0 ?_
 exact Rb rfl rfl ⟨by rw[←invB_at (n:=n) (links:=links) (j:=j) (by omega) (by unfold okL;omega)],rfl⟩
 refine J6 ?_
 refine Jr (Tc rfl (fun w h=>(h.rs hr (fun _=>hI _)).cell (by omega) rfl)) ?_
 refine J1 ?_
 refine Jge rfl rfl (fun cc8=>?_) (fun cc8=>?_)
 refine J15 ?_
 refine E0 ?_
 exact Rb rfl rfl ⟨by rw[←invB_at (n:=n) (links:=links) (j:=j) (by omega) (by unfold okL;omega)],rfl⟩
 refine J13 ?_
 refine E0 ?_
 exact KV.loopI (z:=j) (j+1) ⟨by omega,fun i hi=>by by_cases e:i=j;(subst e;unfold okL;omega);exact hinv.2 i (by omega)⟩ (by omega) (sb rfl) (fun _ h=>h)
 refine J14 ?_
 refine E0 ?_
 exact Rb rfl rfl ⟨by rw[invB_f.2 ⟨by omega,fun i hi=>hinv.2 i (by omega)⟩],rfl⟩
theorem basic_fn {A:Option Addr} {c:Nat} {links:List Link} (n:Int) {w:World} (hr:RS w linkK A links) (hl:links.length≤1000000):Fx Tryz.prog 124 [.int .i64 n,.slice A links.length c] w [] no (fun v L=>v= .int .i64 (clM n links)∧L=[]):=by
 refine Fb ?_
 intro I hro hI
 refine J10 ?_
 refine RV.op (Yc [] (F:=[]) rfl rfl (fun w h=>invalid_fn n (h.rs hr (fun _=>hI _)) hl) (fun v L' hp=>?_))
 obtain⟨rfl,rfl⟩:=hp
 refine J2 ?_
 refine KV.cases 9 rfl (fun cc1=>?_) (fun cc1=>?_)
 have hb:=cc1
 refine J8 ?_
 refine E0 ?_
 exact Rb rfl rfl ⟨by rw[clM_bad hb],rfl⟩
 have hb:=cc1
 refine J10 ?_
 refine E0 ?_
 refine CV.loopI (fun(j:Nat)=>j≤links.length∧(links.take j).Nodup) (fun(j:Nat)=>links.length-j) (fun(j:Nat)=>[(1,.slice A links.length c),(5,.int .i64 j)]) (fun(j:Nat)=>Hp I w []) (0) ⟨Nat.zero_le _,by simp⟩ (sb rfl) (fun _ h=>h) ?_
 intro j hinv
 refine J6 ?_
 refine Jlt rfl rfl (fun cc2=>?_) (fun cc2=>?_)
 refine J13 ?_
 refine E0 ?_
 refine CV.loopI (fun(k:Nat)=>k≤j∧ ∀i,i<k→links.getD j linkK.d≠links.getD i linkK.d) (fun(k:Nat)=>j-k) (fun(k:Nat)=>[(1,.slice A links.length c),(5,.int .i64 j),(6,.int .i64 k)]) (fun(k:Nat)=>Hp I w []) (0) ⟨Nat.zero_le _,fun _ h=>by omega⟩ (sb rfl) (fun _ h=>h) ?_
 intro k hinv2
 refine J5 ?_
 refine Jlt rfl rfl (fun cc3=>?_) (fun cc3=>?_)
 refine J8 ?_
 refine Zs ?_
 refine J8 ?_
 refine SV.split gno (Step.binR rfl rfl (EG138eql _ _ _ _) (EQ138eql _ _ _ _)) rfl (fun heq=>?_) (fun heq=>?_)
 refine SV.nil ?_
 refine J15 ?_
 refine J2 ?_
 refine E0 ?_
 exact Rb rfl rfl ⟨by rw[clM_good hb,if_neg (not_nodup_at (j:=j) (k:=k) (by omega) (by omega) (by cases hx:links.getD j linkK.d;cases hy:links.getD k linkK.d;rw[hx,hy] at heq;simp only at heq;rw[heq.1,heq.2]))],rfl⟩
 refine SV.nil ?_
 refine J11 ?_
 refine E0 ?_
 exact KV.loopI (z:=k) (k+1) ⟨by omega,fun i hi=>by by_cases e:i=k;(subst e;intro x;apply heq;rw[x];exact⟨rfl,rfl⟩);exact hinv2.2 i (by omega)⟩ (by omega) (sb rfl) (fun _ h=>h)
 refine J15 ?_
 refine E0 ?_
 exact KV.loopI (z:=j) (j+1) ⟨by omega,nodup_take_succ links j (by omega) hinv.2 (nin_take (by omega) (fun i hi=>hinv2.2 i (by omega)))⟩ (by omega) (sb rfl) (fun _ h=>h)
 refine J14 ?_
 refine E0 ?_
 exact Rb rfl rfl ⟨by rw[clM_good hb,if_pos (by have e:j=links.length:=(by omega);rw[e,List.take_length] at hinv;exact hinv.2)],rfl⟩
theorem matrix_fn {A:Option Addr} {c:Nat} {links:List Link} (n:Nat) {w:World} (hr:RS w linkK A links) (hl:links.length≤1024) (hn:n≤128) (hok: ∀i,i<links.length→okL n (links.getD i linkK.d)):Fx Tryz.prog 125 [.int .i64 n,.slice A links.length c] w [] no (fun v L=> ∃A2 rows,v= .slice A2 n n∧L=[OS 123 brK A2 n rows,Big brF rows]∧MI n rows (wI links n)):=by
 refine Fb ?_
 intro I hro hI
 refine J8 ?_
 refine RV.op (Ym (K:=brK) (n) (n) (brD) rfl rfl rfl rfl (fun A1=>?_))
 refine KV.heap (fun w h=>h.newBig (F:=brF) n brD (fun w=>OS.emp w)) ?_
 refine J10 ?_
 refine E2 ?_
 refine CV.loop2 (fun(i:Nat) (rows:List BR)=>i≤n∧rows.length=n∧ ∀a,a<i→(rows.getD a brD).ys=List.replicate n false) (fun(i:Nat) (rows:List BR)=>n-i) (fun(i:Nat) (rows:List BR)=>[(0,.int .i64 n),(1,.slice A links.length c),(5,.slice A1 n n),(6,.int .i64 i)]) (fun(i:Nat) (rows:List BR)=>Hp I w [OS 123 brK A1 n rows,Big brF rows]) (0) (List.replicate n brD) ⟨Nat.zero_le _,by simp,fun _ h=>by omega⟩ (sb rfl) (fun _ h=>h) ?_
 intro i rows hinv
 refine J5 ?_
 refine Jlt rfl rfl (fun cc1=>?_) (fun cc1=>?_)
 refine J11 ?_
 refine RV.op (Ym (K:=bolK) (n) (n) (false) rfl rfl rfl rfl (fun B1=>?_))
 refine E3 ?_
 refine J1 ?_
 refine RV.op (OV.storeE 0 (i) (⟨B1,n,List.replicate n false⟩) (j:=0) [_] I123.h rfl rfl rfl rfl rfl rfl (by omega) (by simp[brK]) (Nat.le_of_ble_eq_true rfl) gno ?_)
 refine KV.heap (fun w h=>mt_new (a:=i) h (by omega)) ?_
 refine J9 ?_
 refine E2 ?_
 exact KV.loop2 (x:=i) (y:=rows) (i+1) (rows.set i ⟨B1,n,List.replicate n false⟩) ⟨by omega,by rw[List.length_set];exact hinv.2.1,row_new hinv.2.1 (by omega) hinv.2.2⟩ (by omega) (sb rfl) (fun _ h=>h)
 refine J15 ?_
 refine E2 ?_
 refine CV.loop2 (fun(j:Nat) (rows:List BR)=>j≤links.length∧MI n rows (W0 (links.take j))) (fun(j:Nat) (rows:List BR)=>links.length-j) (fun(j:Nat) (rows:List BR)=>[(0,.int .i64 n),(1,.slice A links.length c),(5,.slice A1 n n),(7,.int .i64 j)]) (fun(j:Nat) (rows:List BR)=>Hp I w [OS 123 brK A1 n rows,Big brF rows]) (0) (rows) ⟨Nat.zero_le _,MI.new hinv.2.1 (fun a ha=>hinv.2.2 a (by omega))⟩ (sb rfl) (fun _ h=>h) ?_
 intro j rows hinv
 have hln:=hinv.2.1
 refine J6 ?_
 refine Jlt rfl rfl (fun cc2=>?_) (fun cc2=>?_)
 refine J7 ?_
 obtain⟨i,hi2⟩:=Int.eq_ofNat_of_zero_le (hok j (by omega)).1.1
 obtain⟨k,hk2⟩:=Int.eq_ofNat_of_zero_le (hok j (by omega)).2.1
 have hi3:=(hok j (by omega)).1.2
 have hk3:=(hok j (by omega)).2.2
 rw[hi2] at hi3
 rw[hk2] at hk3
 have hli:=(hinv.2.2 i (by omega)).1
 refine Zt 14 ?_
 refine J6 ?_
 refine Sr (Ti (fun w h=>h.os 0 rfl) rfl rfl (by first|rfl|omega) _ hi2 (by omega)) ?_
 refine J6 ?_
 refine Sr (Ti (fun w h=>(h.bigOS (k:=1) (m:=i) (G:=fun b w=>RS w bolK b.A b.ys) brD rfl (by omega) brRS)) rfl rfl (by first|rfl|omega) _ hk2 (by omega)) ?_
 refine SV.nil ?_
 show KV _ (wpList _ _ _ _) _ _
 refine KV.heap (fun w h=>h.focus (k:=1) (m:=i) brD rfl (by omega)) ?_
 refine RV.op (Yx 1 (k) (true) (j:=0) [_] rfl rfl rfl rfl rfl (by omega) rfl ?_)
 refine KV.heap (fun w h=>mt_set (a:=i) h (by omega)) ?_
 refine J9 ?_
 refine E2 ?_
 exact KV.loop2 (x:=j) (y:=rows) (j+1) ((rows.set i (stR (rows.getD i brD) k))) ⟨by omega,hinv.2.link (by omega) (by omega) (by omega) hi2 hk2⟩ (by omega) (sb rfl) (fun _ h=>h)
 refine J15 ?_
 refine E2 ?_
 refine CV.loop2 (fun(k:Nat) (rows:List BR)=>k≤n∧MI n rows (wI links k)) (fun(k:Nat) (rows:List BR)=>n-k) (fun(k:Nat) (rows:List BR)=>[(0,.int .i64 n),(5,.slice A1 n n),(8,.int .i64 k)]) (fun(k:Nat) (rows:List BR)=>Hp I w [OS 123 brK A1 n rows,Big brF rows]) (0) (rows) ⟨Nat.zero_le _,by have e:j=links.length:=(by omega);rw[e,List.take_length] at hinv;exact hinv.2⟩ (sb rfl) (fun _ h=>h) ?_
 intro k rows hinv
 refine J5 ?_
 refine Jlt rfl rfl (fun cc3=>?_) (fun cc3=>?_)
 refine J13 ?_
 refine E2 ?_
 refine CV.loop2 (fun(a:Nat) (rows:List BR)=>a≤n∧MI n rows (wP k (wI links k) a 0)) (fun(a:Nat) (rows:List BR)=>n-a) (fun(a:Nat) (rows:List BR)=>[(0,.int .i64 n),(5,.slice A1 n n),(8,.int .i64 k),(9,.int .i64 a)]) (fun(a:Nat) (rows:List BR)=>Hp I w [OS 123 brK A1 n rows,Big brF rows]) (0) (rows) ⟨Nat.zero_le _,hinv.2.beg⟩ (sb rfl) (fun _ h=>h) ?_
 intro a rows hinv2
 have hln:=hinv2.2.1
 have hla: ∀x,x<n→(rows.getD x brD).ys.length=n:=fun x hx=>(hinv2.2.2 x hx).1
 refine J5 ?_
 refine Jlt rfl rfl (fun cc4=>?_) (fun cc4=>?_)
 refine J9 ?_
 have hlx:=hla a (by omega)
 refine J6 ?_
 refine Jr (Ti (fun w h=>(h.bigOS (k:=1) (m:=a) (G:=fun b w=>RS w bolK b.A b.ys) brD rfl (by omega) brRS)) rfl rfl (by first|rfl|omega) _ rfl (by omega)) ?_
 refine Jr (Tc rfl (fun w h=>(h.bigOS (k:=1) (m:=a) (G:=fun b w=>RS w bolK b.A b.ys) brD rfl (by omega) brRS).cell0 (by omega) rfl)) ?_
 refine J3 ?_
 refine KV.cases 60 rfl (fun cc5=>?_) (fun cc5=>?_)
 have hak:wI links k a k=false:=by rw[←hinv2.2.rowv (a:=a) (k:=k) (by omega) (by omega)];rw[Bool.not_eq_true'] at cc5;exact cc5
 refine J11 ?_
 refine E2 ?_
 exact KV.loop2 (x:=a) (y:=rows) (a+1) (rows) ⟨by omega,hinv2.2.skip hak⟩ (by omega) (sb rfl) (fun _ h=>h)
 have hak:wI links k a k=true:=by rw[←hinv2.2.rowv (a:=a) (k:=k) (by omega) (by omega)];rw[Bool.not_eq_false'] at cc5;exact cc5
 refine J9 ?_
 refine E2 ?_
 refine CV.loop2 (fun(b:Nat) (rows:List BR)=>b≤n∧MI n rows (wP k (wI links k) a b)) (fun(b:Nat) (rows:List BR)=>n-b) (fun(b:Nat) (rows:List BR)=>[(0,.int .i64 n),(5,.slice A1 n n),(8,.int .i64 k),(9,.int .i64 a),(10,.int .i64 b)]) (fun(b:Nat) (rows:List BR)=>Hp I w [OS 123 brK A1 n rows,Big brF rows]) (0) (rows) ⟨Nat.zero_le _,hinv2.2⟩ (sb rfl) (fun _ h=>h) ?_
 intro b rows hinv3
 have hln:=hinv3.2.1
 have hla: ∀x,x<n→(rows.getD x brD).ys.length=n:=fun x hx=>(hinv3.2.2 x hx).1
 refine J5 ?_
 refine Jlt rfl rfl (fun cc6=>?_) (fun cc6=>?_)
 refine J8 ?_
 have hlx:=hla a (by omega)
 have hlk:=hla k (by omega)
 refine J6 ?_
 refine Jr (Ti (fun w h=>(h.bigOS (k:=1) (m:=k) (G:=fun b w=>RS w bolK b.A b.ys) brD rfl (by omega) brRS)) rfl rfl (by first|rfl|omega) _ rfl (by omega)) ?_
 refine Jr (Tc rfl (fun w h=>(h.bigOS (k:=1) (m:=k) (G:=fun b w=>RS w bolK b.A b.ys) brD rfl (by omega) brRS).cell0 (by omega) rfl)) ?_
 refine J2 ?_
 refine KV.cases 72 rfl (fun cc7=>?_) (fun cc7=>?_)
 have hkb:=(hinv3.2.kv (by omega) (by omega)).symm.trans cc7
 refine J7 ?_
 refine Jr (Ti (fun w h=>(h.bigOS (k:=1) (m:=a) (G:=fun b w=>RS w bolK b.A b.ys) brD rfl (by omega) brRS)) rfl rfl (by first|rfl|omega) _ rfl (by omega)) ?_
 refine KV.heap (fun w h=>h.focus (k:=1) (m:=a) brD rfl (by omega)) ?_
 refine RV.op (Yx 1 (b) (true) (j:=0) [_] rfl rfl rfl rfl rfl (by omega) rfl ?_)
 refine KV.heap (fun w h=>mt_set (a:=a) h (by omega)) ?_
 refine J9 ?_
 refine E2 ?_
 exact KV.loop2 (x:=b) (y:=rows) (b+1) ((rows.set a (stR (rows.getD a brD) b))) ⟨by omega,hinv3.2.one (by omega) (by omega) hak hkb⟩ (by omega) (sb rfl) (fun _ h=>h)
 have hkb:=(hinv3.2.kv (by omega) (by omega)).symm.trans cc7
 refine J10 ?_
 refine E2 ?_
 exact KV.loop2 (x:=b) (y:=rows) (b+1) (rows) ⟨by omega,hinv3.2.zero (by omega) (by omega) hkb⟩ (by omega) (sb rfl) (fun _ h=>h)
 refine J15 ?_
 refine E2 ?_
 exact KV.loop2 (x:=a) (y:=rows) (a+1) (rows) ⟨by omega,MI.row (by have e:b=n:=(by omega);rw[e] at hinv3;exact hinv3.2)⟩ (by omega) (sb rfl) (fun _ h=>h)
 refine J15 ?_
 refine E2 ?_
 exact KV.loop2 (x:=k) (y:=rows) (k+1) (rows) ⟨by omega,MI.fin (by have e:a=n:=(by omega);rw[e] at hinv2;exact hinv2.2)⟩ (by omega) (sb rfl) (fun _ h=>h)
 refine J15 ?_
 refine E2 ?_
 exact Rb rfl rfl ⟨_,_,rfl,rfl,by have e:k=n:=(by omega);rw[e] at hinv;exact hinv.2⟩
end Go.Proofs.YtkofjhglgoojiaaGreatDoor.Pw
