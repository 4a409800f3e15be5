/-
  Joined.
-/
import Derived.Test.YtkofjhglgoojiaaGreatDoorP23
import Derived.Test.YtkofjhglgoojiaaGreatDoorP24
set_option linter.unusedSimpArgs false
set_option linter.unusedVariables false
namespace Go.Proofs.YtkofjhglgoojiaaGreatDoor.Pw
set_option maxRecDepth 100000
set_option maxHeartbeats 20000000
open Go.Tk Go.Sv Go.Rails Go.Dg Go.Pw
attribute [local irreducible] KV SV OV Step Code.wp wpList Exit.then Exit.inBlock Blk OS Big Bun
theorem devNew_fn {A:Option Addr} {n c:Nat} {ds:List PDv} {w:World} (hr:RS w pdK A ds) (hl:ds.length≤1000000) (hn:n=ds.length) (hds: ∀i,i<ds.length→(ds.getD i pdK.d).rs w) (hsm: ∀i,i<ds.length→(ds.getD i pdK.d).sm 1000000) {B:Option Addr} {m d:Nat} {rs:List Rail} (hr2:RS w railK B rs) (hm:m=rs.length) (hl2:rs.length≤1000000):Fx Tryz.prog 60 [.slice A n c,.slice B m d] w [] no (fun v L=>(newT ds rs=0→ ∃t:TT,v= .tuple #[.pointer (some ⟨t.b,0,none⟩),.int .i64 0]∧(t.rs=new0 rs∧t.st=List.replicate ds.length 4∧t.clk=0∧t.es.length=ds.length∧Cpys ds t.es)∧L=ttL t)∧(newT ds rs≠0→v= .tuple #[.pointer none,.int .i64 (newT ds rs)]∧L=[])):=by
 subst hn
 subst hm
 refine Fb ?_
 intro I hro hI
 refine J12 ?_
 refine RV.op (Yc [] (F:=[]) rfl rfl (fun w h=>check_fn (h.rs hr (fun _=>hI _)) hl rfl (fun i hi k hk=>h.rs (hds i hi k hk) (fun _=>hI _)) hsm rs.length) (fun v L' hp=>?_))
 obtain⟨rfl,rfl⟩:=hp
 refine J6 ?_
 refine Jne rfl rfl (fun hc=>?_) (fun hc=>?_)
 refine J12 ?_
 refine E0 ?_
 have hE:newT ds rs=chkD ds rs.length:=by rw[newT,if_pos hc]
 exact Rc rfl rfl rfl ⟨fun h0=>absurd (hE.symm.trans h0) hc,fun _=>⟨by rw[hE],rfl⟩⟩
 refine J8 ?_
 refine RV.op (Yc [] (F:=[]) rfl rfl (fun w h=>Rl.new_fn (h.rs hr2 (fun _=>hI _)) rfl) (fun v L' hp=>?_))
 by_cases hne:newE rs=0
 obtain⟨b,a,rfl,rfl⟩:=hp.1 hne
 refine J12 ?_
 first|rw[decide_eq_true (show ¬newE rs=0 from hne)]|skip
 refine J8 ?_
 refine Jr (Step.build rfl (Bd278_2 _)) ?_
 refine RV.op (Yb #[_,_,_,_] rfl rfl (fun b7_2=>?_))
 refine J5 ?_
 refine KV.heap (fun w h=>(Hp.nilBig (F:=pdF) (h.nilOS (e:=36) (K:=pdK))).nilOS (e:=3) (K:=intK .i64)) ?_
 refine J7 ?_
 refine K8 [4,4,4,4,0,0,0,0] rfl ?_
 refine CV.loop2 (fun(i:Nat) (z:TG)=>((i≤ds.length∧z.st.length=i)∧z.es.length=i)∧z.st=List.replicate i 4∧Cpys ds z.es) (fun(i:Nat) (z:TG)=>ds.length-i) (fun(i:Nat) (z:TG)=>[(9,.pointer (some ⟨b7_2,0,none⟩)),(31,.slice A ds.length c),(32,.int .i64 ds.length),(33,.int .i64 i)]) (fun(i:Nat) (z:TG)=>Hp I w ([Blk b7_2 (.cells #[.slice z.dA z.es.length z.dc,.slice z.sA z.st.length z.sc,.pointer (some ⟨b,0,none⟩),.int .u64 0] 278 (0,0)),OS 36 pdK z.dA z.dc z.es,Big pdF z.es,OS 3 (intK .i64) z.sA z.sc z.st]++robj 328 b a (new0 rs))) (0) (⟨[],none,0,none,0,[]⟩) ⟨⟨⟨Nat.zero_le _,rfl⟩,rfl⟩,rfl,fun j hj=>by cases hj⟩ (sb rfl) (fun _ h=>h) ?_
 intro i z hinv
 refine J2 ?_
 refine Jlt rfl rfl (fun cc1=>?_) (fun cc1=>?_)
 refine J10 ?_
 refine Jr (Ti (fun w h=>h.rs hr (fun _=>hI _)) rfl rfl (rfl) _ rfl (by first|omega|decide)) ?_
 refine J1 ?_
 refine RV.op (Ya (fun b10_2=>?_))
 refine Zw 8 [_,_,_,_,_,_,_,_,_,_,_,_,_] #[_,_,_,_,_,_,_,_,_,_,_,_,_] ?_
 refine J4 ?_
 refine KV.heap (fun w h=>Hp.nilBig (F:=hdF) h) ?_
 refine J5 ?_
 refine E10 ?_
 refine CV.loop2 (fun(k:Nat) (e:PDv)=>k≤4∧Cpy (ds.getD i pdK.d) e k) (fun(k:Nat) (e:PDv)=>4-k) (fun(k:Nat) (e:PDv)=>[(9,.pointer (some ⟨b7_2,0,none⟩)),(11,.pointer (some ⟨b10_2,0,none⟩)),(31,.slice A ds.length c),(32,.int .i64 ds.length),(33,.int .i64 i),(37,.int .i64 k)]) (fun(k:Nat) (e:PDv)=>Hp I w ([Blk b7_2 (.cells #[.slice z.dA z.es.length z.dc,.slice z.sA z.st.length z.sc,.pointer (some ⟨b,0,none⟩),.int .u64 0] 278 (0,0)),OS 36 pdK z.dA z.dc z.es,Big pdF z.es,OS 3 (intK .i64) z.sA z.sc z.st]++robj 328 b a (new0 rs)++[Blk b10_2 (.cells (pdC e).toArray 36 (0,0)),Big hdF (e.rls.take k)])) (0) ((ds.getD i pdK.d)) ⟨Nat.zero_le _,Cpy.refl _⟩ (sb rfl) (fun _ h=>h) ?_
 intro k e hinv2
 refine J2 ?_
 refine Jlt rfl rfl (fun cc2=>?_) (fun cc2=>?_)
 refine J14 ?_
 have hol:=hinv2.2.old k (Nat.le_refl _) (by omega)
 refine J4 ?_
 refine Jr (Step.idxArr Tryz.underlying33 I32.h rfl rfl _ rfl (by first|omega|decide)) ?_
 refine Jr (Tc rfl (fun w h=>h.cell 8 rfl (pd_rl e (by omega)))) ?_
 rw[hol]
 refine RV.op (Yc [] (F:=[_,_,_,_,_,_,_,_,_,_]) rfl rfl (fun w h=>Rl.cloneInt_fn (h.rs (hds i (by omega) k (by omega)) (fun _=>hI _)) (hsm i (by omega) k (by omega)) rfl) (fun v L' hp=>?_))
 obtain⟨A2,c2,rfl,rfl⟩:=hp
 refine J1 ?_
 refine Jr (Step.idxArr Tryz.underlying33 I32.h rfl rfl _ rfl (by first|omega|decide)) ?_
 refine RV.op (OV.store 8 [.slice A2 ((ds.getD i pdK.d).rl k).ys.length c2] (pdC (e.setR k ⟨A2,c2,((ds.getD i pdK.d).rl k).ys⟩)).toArray I32.h rfl rfl rfl rfl rfl (by show 0+1+k* 1+1≤13;omega) (by simp[Value.oneCell']) (pd_store e ⟨A2,c2,((ds.getD i pdK.d).rl k).ys⟩ (by omega)) gno ?_)
 refine E11 ?_
 refine KV.heap (fun w h=>Hp.bigSnoc (L:=[_,_,_,_,_,_,_,_,_,_]) (F:=hdF) (h':=⟨A2,c2,((ds.getD i pdK.d).rl k).ys⟩) (k:=9) h rfl) ?_
 refine J8 ?_
 refine E10 ?_
 exact KV.loop2 (x:=k) (y:=e) (k+1) ((e.setR k ⟨A2,c2,((ds.getD i pdK.d).rl k).ys⟩)) ⟨by omega,hinv2.2.step (by omega)⟩ (by omega) (sb rfl) (fun _ h=>by rw[rls_take _ _ (by omega)];exact h)
 refine J10 ?_
 obtain rfl:k=4:=by omega
 have hln:=hinv.1.2
 refine An (Hp I w [Blk b10_2 (.cells (pdC e).toArray 36 (0,0))]) 11 ?_
 refine W 0 ?_
 refine W 1 ?_
 refine W 2 ?_
 refine W 3 ?_
 refine Wt 5 rfl (Tw rfl (fun w h=>h.cellsO 0 0 (pdC e) rfl rfl)) ?_
 refine V2 4 6 ?_ ?_
 refine OV.step gno (Tl 0 rfl rfl rfl) rfl ?_
 refine Wn ?_
 refine V1 6 ?_
 refine OV.buildSlice (K:=pdK) ([e]) rfl (Bs97_1_0 _ _ _ _ _ _ _ _ _ _ _ _ _) rfl rfl (by omega) gno rfl (fun b16_6=>?_)
 refine Wn ?_
 refine V1 7 ?_
 refine Ye 1 rfl rfl rfl rfl rfl (fun w h=>h.os 10 rfl) (by have:=hinv.1.2;simp only[List.length_cons,List.length_nil];omega) (fun dA2 dc2=>?_)
 refine Wn ?_
 refine W 8 ?_
 refine W 9 ?_
 refine V1 10 ?_
 refine Yw 0 [_] #[_,_,_,_] rfl rfl rfl rfl rfl ?_
 refine Wn ?_
 refine Vd ?_
 refine J4 ?_
 refine Jp rfl ?_
 refine J2 ?_
 refine RV.op (OV.buildSlice (K:=(intK .i64)) ([4]) rfl (Bs32_1_0 _) rfl rfl (by omega) gno rfl (fun b17_5=>?_))
 refine RV.op (Ye 3 rfl rfl rfl rfl rfl (fun w h=>h.os 11 rfl) (by have:=hinv.1.1;simp only[List.length_cons,List.length_nil];omega) (fun sA2 sc2=>?_))
 refine Jp rfl ?_
 refine J1 ?_
 refine Zw 0 [_] #[_,_,_,_] ?_
 refine K9 [0,0,0,0,0,0,0,0,1] rfl ?_
 refine KV.heap (fun w h=>Hp.bigSnoc (L:=[_,_,_,_,_,_,_,_]) (F:=pdF) (h':=e) (k:=2) h rfl) ?_
 refine J8 ?_
 refine E8 ?_
 exact KV.loop2 (x:=i) (y:=z) (i+1) (⟨z.es++[e],dA2,dc2,sA2,sc2,z.st++[4]⟩) ⟨⟨⟨by omega,by rw[List.length_append];have:=hinv.1.1.2;simp;omega⟩,by rw[List.length_append];simp;omega⟩,by rw[hinv.2.1,←List.replicate_succ'],hinv.2.2.snoc (by rw[hln];exact hinv2.2)⟩ (by omega) (sb rfl) (fun _ h=>h)
 refine OV.buildSlice (K:=pdK) ([e]) rfl (Bs97_1_0 _ _ _ _ _ _ _ _ _ _ _ _ _) rfl rfl (by omega) gno rfl (fun b16_6=>?_)
 refine Wn ?_
 refine V1 4 ?_
 refine OV.step gno (Tl 0 rfl rfl rfl) rfl ?_
 refine Wn ?_
 refine V1 7 ?_
 refine Ye 1 rfl rfl rfl rfl rfl (fun w h=>h.os 10 rfl) (by have:=hinv.1.2;simp only[List.length_cons,List.length_nil];omega) (fun dA2 dc2=>?_)
 refine Wn ?_
 refine W 8 ?_
 refine W 9 ?_
 refine V1 10 ?_
 refine Yw 0 [_] #[_,_,_,_] rfl rfl rfl rfl rfl ?_
 refine Wn ?_
 refine Vd ?_
 refine J4 ?_
 refine Jp rfl ?_
 refine J2 ?_
 refine RV.op (OV.buildSlice (K:=(intK .i64)) ([4]) rfl (Bs32_1_0 _) rfl rfl (by omega) gno rfl (fun b17_5=>?_))
 refine RV.op (Ye 3 rfl rfl rfl rfl rfl (fun w h=>h.os 11 rfl) (by have:=hinv.1.1;simp only[List.length_cons,List.length_nil];omega) (fun sA2 sc2=>?_))
 refine Jp rfl ?_
 refine J1 ?_
 refine Zw 0 [_] #[_,_,_,_] ?_
 refine K9 [0,0,0,0,0,0,0,0,1] rfl ?_
 refine KV.heap (fun w h=>Hp.bigSnoc (L:=[_,_,_,_,_,_,_,_]) (F:=pdF) (h':=e) (k:=2) h rfl) ?_
 refine J8 ?_
 refine E8 ?_
 exact KV.loop2 (x:=i) (y:=z) (i+1) (⟨z.es++[e],dA2,dc2,sA2,sc2,z.st++[4]⟩) ⟨⟨⟨by omega,by rw[List.length_append];have:=hinv.1.1.2;simp;omega⟩,by rw[List.length_append];simp;omega⟩,by rw[hinv.2.1,←List.replicate_succ'],hinv.2.2.snoc (by rw[hln];exact hinv2.2)⟩ (by omega) (sb rfl) (fun _ h=>h)
 refine J15 ?_
 refine J2 ?_
 refine E8 ?_
 have hE:newT ds rs=0:=by rw[newT,if_neg hc];exact hne
 obtain rfl:i=ds.length:=by omega
 exact Rc rfl rfl rfl ⟨fun _=>⟨⟨b7_2,z.dA,z.dc,z.es,z.sA,z.sc,z.st,b,a,new0 rs,0⟩,rfl,⟨rfl,hinv.2.1,rfl,hinv.1.2,hinv.2.2⟩,rfl⟩,fun h0=>absurd hE h0⟩
 obtain⟨rfl,rfl⟩:=hp.2 hne
 simp only[List.append_nil]
 refine J12 ?_
 first|rw[decide_eq_true (show ¬newE rs=0 from hne)]|skip
 refine J12 ?_
 refine E0 ?_
 have hE:newT ds rs=newE rs:=by rw[newT,if_neg hc]
 exact Rc rfl rfl rfl ⟨fun h0=>absurd (hE.symm.trans h0) hne,fun _=>⟨by rw[hE],rfl⟩⟩
theorem ref27New_fn {A:Option Addr} {n c:Nat} {ds:List PDv} {w:World} (hr:RS w pdK A ds) (hl:ds.length≤1000000) (hn:n=ds.length) (hds: ∀i,i<ds.length→(ds.getD i pdK.d).rs w) (hsm: ∀i,i<ds.length→(ds.getD i pdK.d).sm 1000000) {B:Option Addr} {m d:Nat} {rs:List Rail} (hr2:RS w railK B rs) (hm:m=rs.length) (hl2:rs.length≤1000000):Fx Tryz.prog 39 [.slice A n c,.slice B m d] w [] no (fun v L=>(newT ds rs=0→ ∃t:TR27,v= .tuple #[.pointer (some ⟨t.b,0,none⟩),.int .i64 0]∧(t.A=A∧t.n=ds.length∧t.c=c∧t.rs=new0 rs∧t.st=List.replicate ds.length 4∧t.clk=0)∧L=trL t)∧(newT ds rs≠0→v= .tuple #[.pointer none,.int .i64 (newT ds rs)]∧L=[])):=by
 subst hn
 subst hm
 refine Fb ?_
 intro I hro hI
 refine J12 ?_
 refine RV.op (Yc [] (F:=[]) rfl rfl (fun w h=>checkR_fn (h.rs hr (fun _=>hI _)) hl rfl (fun i hi k hk=>h.rs (hds i hi k hk) (fun _=>hI _)) hsm rs.length) (fun v L' hp=>?_))
 obtain⟨rfl,rfl⟩:=hp
 refine J6 ?_
 refine Jne rfl rfl (fun hc=>?_) (fun hc=>?_)
 refine J12 ?_
 refine E0 ?_
 have hE:newT ds rs=chkD ds rs.length:=by rw[newT,if_pos hc]
 exact Rc rfl rfl rfl ⟨fun h0=>absurd (hE.symm.trans h0) hc,fun _=>⟨by rw[hE],rfl⟩⟩
 refine J8 ?_
 refine RV.op (Yc [] (F:=[]) rfl rfl (fun w h=>Rl.newR_fn (h.rs hr2 (fun _=>hI _)) rfl) (fun v L' hp=>?_))
 by_cases hne:newRE rs=0
 obtain⟨b,a,rfl,rfl⟩:=hp.1 hne
 refine J12 ?_
 first|rw[decide_eq_true (show ¬newRE rs=0 from hne)]|skip
 refine J9 ?_
 refine Jr (Step.build rfl (Bd236_0_1 _ _ _ _)) ?_
 refine RV.op (Yb #[_,_,_,_] rfl rfl (fun b7_3=>?_))
 refine J5 ?_
 have hds64:=chkD_zero (Decidable.not_not.1 hc)
 refine KV.heap (fun w h=>h.nilOS (e:=3) (K:=intK .i64)) ?_
 refine J5 ?_
 refine K6 [4,4,0,0,0,0] rfl ?_
 refine CV.loop2 (fun(i:Nat) (z:Hd)=>i≤ds.length∧z.ys=List.replicate i 4) (fun(i:Nat) (z:Hd)=>ds.length-i) (fun(i:Nat) (z:Hd)=>[(0,.slice A ds.length c),(9,.pointer (some ⟨b7_3,0,none⟩)),(10,.int .i64 i)]) (fun(i:Nat) (z:Hd)=>Hp I w ([Blk b7_3 (.cells #[.slice A ds.length c,.pointer (some ⟨b,0,none⟩),.slice z.A z.ys.length z.c,.int .u64 0] 236 (0,0)),OS 3 (intK .i64) z.A z.c z.ys]++robj 302 b a (new0 rs))) (0) (⟨none,0,[]⟩) ⟨Nat.zero_le _,rfl⟩ (sb rfl) (fun _ h=>h) ?_
 intro i z hinv
 refine J6 ?_
 refine Jlt rfl rfl (fun cc1=>?_) (fun cc1=>?_)
 refine J10 ?_
 refine Jp rfl ?_
 refine J2 ?_
 refine RV.op (OV.buildSlice (K:=(intK .i64)) ([4]) rfl (Bs32_1_0 _) rfl rfl (by omega) gno rfl (fun b11_5=>?_))
 refine RV.op (Ye 1 rfl rfl rfl rfl rfl (fun w h=>h.os 6 rfl) (by have:=hinv.2;have:=hds64.1;simp only[List.length_cons,List.length_nil,this];rw[hinv.2,List.length_replicate];omega) (fun sA2 sc2=>?_))
 refine Jp rfl ?_
 refine J1 ?_
 refine Zw 0 [_] #[_,_,_,_] ?_
 refine J9 ?_
 refine E6 ?_
 exact KV.loop2 (x:=i) (y:=z) (i+1) (⟨sA2,sc2,z.ys++[4]⟩) ⟨by omega,by rw[hinv.2,←List.replicate_succ']⟩ (by omega) (sb rfl) (fun _ h=>h)
 refine J15 ?_
 refine J1 ?_
 refine E6 ?_
 have hE:newT ds rs=0:=(newT_rails hc).trans hne
 obtain rfl:i=ds.length:=by omega
 exact Rc rfl rfl rfl ⟨fun _=>⟨⟨b7_3,A,ds.length,c,z.A,z.c,z.ys,b,a,new0 rs,0⟩,rfl,⟨rfl,rfl,rfl,rfl,hinv.2,rfl⟩,rfl⟩,fun h0=>absurd hE h0⟩
 obtain⟨rfl,rfl⟩:=hp.2 hne
 simp only[List.append_nil]
 refine J12 ?_
 first|rw[decide_eq_true (show ¬newRE rs=0 from hne)]|skip
 refine J12 ?_
 refine E0 ?_
 have hE:newT ds rs=newRE rs:=newT_rails hc
 exact Rc rfl rfl rfl ⟨fun h0=>absurd (hE.symm.trans h0) hne,fun _=>⟨by rw[hE],rfl⟩⟩
theorem regs_fn (b:Int) {w:World}:Fx Tryz.prog 31 [.int .u64 b] w [] no (fun v L=>v= .agg #[.int .u64 b,.int .u64 256]∧L=[]):=by
 refine Fb ?_
 intro I hro hI
 refine J2 ?_
 refine RV.op (Ya (fun b0_0=>?_))
 refine J5 ?_
 refine Jr (Step.build rfl (Bd119_0_1 _ _)) ?_
 refine Zw 0 [_,_] #[_,_] ?_
 refine J3 ?_
 exact KV.retC1 [_,_] rfl rfl Tryz.underlying119 rfl I119.h rfl (fun w h=>h.cells 0 rfl) [] (fun _ h=>h.sel [] rfl) ⟨rfl,rfl⟩
theorem regsR_fn (b:Int) {w:World}:Fx Tryz.prog 35 [.int .u64 b] w [] no (fun v L=>v= .agg #[.int .u64 b,.int .u64 256]∧L=[]):=by
 refine Fb ?_
 intro I hro hI
 refine J2 ?_
 refine RV.op (Ya (fun b0_0=>?_))
 refine J5 ?_
 refine Jr (Step.build rfl (Bd119_0_1 _ _)) ?_
 refine Zw 0 [_,_] #[_,_] ?_
 refine J3 ?_
 exact KV.retC1 [_,_] rfl rfl Tryz.underlying119 rfl I119.h rfl (fun w h=>h.cells 0 rfl) [] (fun _ h=>h.sel [] rfl) ⟨rfl,rfl⟩
theorem isReg_fn (x:Int) {w:World}:Fx Tryz.prog 144 [.int .u64 x] w [] no (fun v L=>v= .bool (decide (regP x))∧L=[]):=by
 refine Fb ?_
 intro I hro hI
 refine J8 ?_
 refine Jr (Step.rem rfl rfl (by omega) (rfl)) ?_
 refine Jeq rfl rfl (fun h1=>?_) (fun h1=>?_)
 refine J2 ?_
 refine Jlt rfl rfl (fun h2=>?_) (fun h2=>?_)
 refine J5 ?_
 refine E0 ?_
 exact Rb rfl rfl ⟨by first|rw[decide_eq_true (show regP x from⟨h1,h2⟩)]|rw[decide_eq_false (fun h:regP x=>h2 h.2)]|rw[decide_eq_false (fun h:regP x=>h1 h.1)],rfl⟩
 refine J5 ?_
 refine E0 ?_
 exact Rb rfl rfl ⟨by first|rw[decide_eq_true (show regP x from⟨h1,h2⟩)]|rw[decide_eq_false (fun h:regP x=>h2 h.2)]|rw[decide_eq_false (fun h:regP x=>h1 h.1)],rfl⟩
 refine J8 ?_
 refine E0 ?_
 exact Rb rfl rfl ⟨by first|rw[decide_eq_true (show regP x from⟨h1,h2⟩)]|rw[decide_eq_false (fun h:regP x=>h2 h.2)]|rw[decide_eq_false (fun h:regP x=>h1 h.1)],rfl⟩
theorem alnR_fn {A:Option Addr} {n c:Nat} {l:List Int} {w:World} (hr:RS w (intK .u64) A l) (hl:l.length≤1000000) (hn:n=l.length):Fx Tryz.prog 70 [.slice A n c] w [] no (fun v L=>v= .bool (decide (alnP l))∧L=[]):=by
 subst hn
 refine Fb ?_
 intro I hro hI
 refine J12 ?_
 refine E0 ?_
 refine CV.loopI (fun(i:Nat)=>i≤l.length∧ ∀j,j<i→(l.getD j (intK .u64).d).tmod 256=0) (fun(i:Nat)=>l.length-i) (fun(i:Nat)=>[(0,.slice A l.length c),(3,.int .i64 i)]) (fun(i:Nat)=>Hp I w []) (0) ⟨Nat.zero_le _,fun _ h=>by omega⟩ (sb rfl) (fun _ h=>h) ?_
 intro i hinv
 refine J6 ?_
 refine Jlt rfl rfl (fun cc1=>?_) (fun cc1=>?_)
 refine J12 ?_
 refine Jr (Tc rfl (fun w h=>(h.rs hr (fun _=>hI _)).cell0 (by omega) rfl)) ?_
 refine Jr (Step.rem rfl rfl (by omega) (rfl)) ?_
 refine Jne rfl rfl (fun hne=>?_) (fun hne=>?_)
 refine J14 ?_
 refine E0 ?_
 exact Rb rfl rfl ⟨by rw[decide_eq_false (fun h:alnP l=>hne (h i (by omega)))],rfl⟩
 refine J12 ?_
 refine E0 ?_
 exact KV.loopI (z:=i) (i+1) ⟨by omega,fun j hj=>by by_cases e:j=i;(subst e;exact Decidable.not_not.1 hne);exact hinv.2 j (by omega)⟩ (by omega) (sb rfl) (fun _ h=>h)
 refine J14 ?_
 refine E0 ?_
 exact Rb rfl rfl ⟨by rw[decide_eq_true (show alnP l from fun j hj=>hinv.2 j (by omega))],rfl⟩
theorem aln1_fn (x:Int) {w:World}:Fx Tryz.prog 105 [.int .u64 x] w [] no (fun v L=>v= .bool (decide (¬x.tmod 256=0))∧L=[]):=by
 refine Fb ?_
 intro I hro hI
 refine J8 ?_
 refine Jr (Step.rem rfl rfl (by omega) (rfl)) ?_
 refine J5 ?_
 refine E0 ?_
 exact Rb rfl rfl ⟨rfl,rfl⟩
theorem idxF_fn {A:Option Addr} {n c:Nat} {l:List Int} {w:World} (hr:RS w (intK .u64) A l) (hl:l.length≤1000000) (hn:n=l.length):Fx Tryz.prog 142 [.slice A n c,.func (.func 105) #[] #[]] w [] no (fun v L=> ∃x:Int,v= .int .i64 x∧(0≤x↔ ¬alnP l)∧L=[]):=by
 subst hn
 refine Fb ?_
 intro I hro hI
 refine J14 ?_
 refine E0 ?_
 refine CV.loopI (fun(i:Nat)=>i≤l.length∧ ∀j,j<i→(l.getD j (intK .u64).d).tmod 256=0) (fun(i:Nat)=>l.length-i) (fun(i:Nat)=>[(0,.slice A l.length c),(1,.func (.func 105) #[] #[]),(7,.int .i64 l.length),(8,.int .i64 i)]) (fun(i:Nat)=>Hp I w []) (0) ⟨Nat.zero_le _,fun _ h=>by omega⟩ (sb rfl) (fun _ h=>h) ?_
 intro i hinv
 refine J2 ?_
 refine Jlt rfl rfl (fun cc1=>?_) (fun cc1=>?_)
 refine J15 ?_
 refine J5 ?_
 refine Jr (Tc rfl (fun w h=>(h.rs hr (fun _=>hI _)).cell0 (by omega) rfl)) ?_
 refine RV.op (OV.callv [] (F:=[]) (caps:=[]) rfl C105.f C105.b C105.n rfl rfl (fun w h=>aln1_fn _) (fun _ hb=>hb.elim) gno rfl (fun v L' hp=>?_))
 obtain⟨rfl,rfl⟩:=hp
 refine J2 ?_
 refine KV.cases 16 rfl (fun cc2=>?_) (fun cc2=>?_)
 have hne:=of_decide_eq_true cc2
 refine J13 ?_
 refine E0 ?_
 exact Rb rfl rfl ⟨_,rfl,⟨fun _ h=>hne (h i (by omega)),fun _=>by omega⟩,rfl⟩
 have hne:=of_decide_eq_false cc2
 refine J9 ?_
 refine E0 ?_
 exact KV.loopI (z:=i) (i+1) ⟨by omega,fun j hj=>by by_cases e:j=i;(subst e;exact Decidable.not_not.1 hne);exact hinv.2 j (by omega)⟩ (by omega) (sb rfl) (fun _ h=>h)
 refine J15 ?_
 refine E0 ?_
 exact Rb rfl rfl ⟨_,rfl,⟨fun h=>absurd h (by decide),fun h=>absurd (show alnP l from fun j hj=>hinv.2 j (by omega)) h⟩,rfl⟩
theorem conF_fn {A:Option Addr} {n c:Nat} {l:List Int} {w:World} (hr:RS w (intK .u64) A l) (hl:l.length≤1000000) (hn:n=l.length):Fx Tryz.prog 104 [.slice A n c,.func (.func 105) #[] #[]] w [] no (fun v L=>v= .bool (decide (¬alnP l))∧L=[]):=by
 refine Fb ?_
 intro I hro hI
 refine J9 ?_
 refine RV.op (Yc [] (F:=[]) rfl rfl (fun w h=>idxF_fn (h.rs hr (fun _=>hI _)) hl hn) (fun v L' hp=>?_))
 obtain⟨x,rfl,hx,rfl⟩:=hp
 simp only[List.append_nil]
 refine Jge rfl rfl (fun h0=>?_) (fun h0=>?_)
 refine J4 ?_
 refine E0 ?_
 exact Rb rfl rfl ⟨by first|rw[decide_eq_true (hx.1 h0)]|rw[decide_eq_false (fun h=>h0 (hx.2 h))],rfl⟩
 refine J4 ?_
 refine E0 ?_
 exact Rb rfl rfl ⟨by first|rw[decide_eq_true (hx.1 h0)]|rw[decide_eq_false (fun h=>h0 (hx.2 h))],rfl⟩
theorem aln_fn {A:Option Addr} {n c:Nat} {l:List Int} {w:World} (hr:RS w (intK .u64) A l) (hl:l.length≤1000000) (hn:n=l.length):Fx Tryz.prog 58 [.slice A n c] w [] no (fun v L=>v= .bool (decide (alnP l))∧L=[]):=by
 refine Fb ?_
 intro I hro hI
 refine J8 ?_
 refine RV.op (Yc [] (F:=[]) rfl rfl (fun w h=>conF_fn (h.rs hr (fun _=>hI _)) hl hn) (fun v L' hp=>?_))
 obtain⟨rfl,rfl⟩:=hp
 refine J5 ?_
 refine E0 ?_
 exact Rb rfl rfl ⟨by by_cases h:alnP l<;>simp[h],rfl⟩
end Go.Proofs.YtkofjhglgoojiaaGreatDoor.Pw
