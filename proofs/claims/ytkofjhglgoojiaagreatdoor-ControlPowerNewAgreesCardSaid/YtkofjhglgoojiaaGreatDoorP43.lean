/-
  Joined.
-/
import Derived.Test.YtkofjhglgoojiaaGreatDoorP37
import Derived.Test.YtkofjhglgoojiaaGreatDoorP42
set_option linter.unusedSimpArgs false
set_option linter.unusedVariables false
namespace Go.Proofs.YtkofjhglgoojiaaGreatDoor.Pw
set_option maxRecDepth 100000
set_option maxHeartbeats 20000000
open Go.Tk Go.Sv Go.Rails Go.Dg Go.Pw
attribute [local irreducible] KV SV OV Step Code.wp wpList Exit.then Exit.inBlock Blk OS Big Bun
theorem valid44_fn {A B C:Option Addr} {n c m d q e:Nat} {ds:List BDv} {rs:List Rail} {bs:List Int} {w:World} (hr:RS w bdK A ds) (hn:n=ds.length) (hl:ds.length≤1000000) (hr2:RS w railK B rs) (hm:m=rs.length) (hl2:rs.length≤1000000) (hr3:RS w (intK .u64) C bs) (hq:q=bs.length) (hl3:bs.length≤1000000) (hb: ∀i,i<ds.length→(ds.getD i bdK.d).inn w):Fx Tryz.prog 33 [.slice A n c,.slice B m d,.slice C q e] w [] no (fun v L=> ∃b:Bool,v= .bool b∧(b=true↔PwOk ds rs bs)∧L=[]):=by
 subst hn
 subst hm
 subst hq
 refine Fb ?_
 intro I hro hI
 refine J10 ?_
 refine Jgt rfl rfl (fun hfar=>?_) (fun hfar=>?_)
 refine J15 ?_
 refine J7 ?_
 refine E0 ?_
 exact Rb rfl rfl ⟨false,rfl,⟨fun h=>absurd h (by decide),fun hk=>absurd hk (fun hk=>by first|(have:=hk.n;have:=hk.nb;omega)|exact haln hk.aln)⟩,rfl⟩
 refine J5 ?_
 refine Jne rfl rfl (fun hnb=>?_) (fun hnb=>?_)
 refine J15 ?_
 refine J1 ?_
 refine E0 ?_
 exact Rb rfl rfl ⟨false,rfl,⟨fun h=>absurd h (by decide),fun hk=>absurd hk (fun hk=>by first|(have:=hk.n;have:=hk.nb;omega)|exact haln hk.aln)⟩,rfl⟩
 refine J3 ?_
 refine RV.op (Yc [] (F:=[]) rfl rfl (fun w h=>alnR_fn (h.rs hr3 (fun _=>hI _)) hl3 rfl) (fun v L' hp=>?_))
 obtain⟨rfl,rfl⟩:=hp
 by_cases haln:alnP bs
 rw[decide_eq_true haln]
 refine J15 ?_
 refine J4 ?_
 refine KV.heap (fun w h=>(h.nilOS (e:=36) (K:=pdK)).nilOS (e:=39) (K:=idK)) ?_
 refine J5 ?_
 refine E2 ?_
 refine CV.loop2 (fun(i:Nat) (z:PG)=>i≤ds.length∧(∀j,j<i→unOk (ds.getD j bdK.d))∧ ∀j,j<i→ ∀k,k<j→(ds.getD k bdK.d).fn≠(ds.getD j bdK.d).fn) (fun(i:Nat) (z:PG)=>ds.length-i) (fun(i:Nat) (z:PG)=>[(0,.slice A ds.length c),(1,.slice B rs.length d),(7,.slice z.pA ((ds.take i).map (·.pw)).length z.pc),(8,.slice z.iA ((ds.take i).map (·.il)).length z.ic),(9,.int .i64 i)]) (fun(i:Nat) (z:PG)=>Hp I w [OS 36 pdK z.pA z.pc ((ds.take i).map (·.pw)),OS 39 idK z.iA z.ic ((ds.take i).map (·.il))]) (0) (⟨[],none,0,none,0,none,0⟩) ⟨Nat.zero_le _,fun _ h=>by omega,fun _ h=>by omega⟩ (sb rfl) (fun _ h=>h) ?_
 intro i z hinv
 refine J6 ?_
 refine Jlt rfl rfl (fun cc1=>?_) (fun cc1=>?_)
 refine J13 ?_
 refine RV.op (OV.alloc #[.int .i64 0,.int .i64 0,.slice none 0 0,.slice none 0 0,.slice none 0 0,.slice none 0 0,.int .i64 0,.int .i64 0,.int .i64 0,.int .i64 0,.int .i64 0,.int .i64 0,.int .i64 0,.int .i64 0,.int .i64 0,.slice none 0 0,.int .u64 0,.string (Sv.bs [])] I41.h rfl gno rfl (fun b8_4=>?_))
 refine Zw 2 [_,_,_,_,_,_,_,_,_,_,_,_,_,_,_,_,_,_] #[_,_,_,_,_,_,_,_,_,_,_,_,_,_,_,_,_,_] ?_
 refine J9 ?_
 refine E3 ?_
 refine CV.loopI (fun(k:Nat)=>k≤i∧ ∀j,j<k→(ds.getD j bdK.d).fn≠(ds.getD i bdK.d).fn) (fun(k:Nat)=>i-k) (fun(k:Nat)=>[(0,.slice A ds.length c),(1,.slice B rs.length d),(7,.slice z.pA ((ds.take i).map (·.pw)).length z.pc),(8,.slice z.iA ((ds.take i).map (·.il)).length z.ic),(9,.int .i64 i),(10,.pointer (some ⟨b8_4,0,none⟩)),(11,.int .i64 k)]) (fun(k:Nat)=>Hp I w [OS 36 pdK z.pA z.pc ((ds.take i).map (·.pw)),OS 39 idK z.iA z.ic ((ds.take i).map (·.il)),Blk b8_4 (.cells (bdC (ds.getD i bdK.d)).toArray 41 (0,0))]) (0) ⟨Nat.zero_le _,fun _ h=>by omega⟩ (sb rfl) (fun _ h=>h) ?_
 intro k hinv2
 refine J5 ?_
 refine Jlt rfl rfl (fun cc2=>?_) (fun cc2=>?_)
 refine J8 ?_
 refine Zs ?_
 refine J4 ?_
 refine Sr (Tc rfl (fun w h=>RS.cellAt (h.rs hr (fun _=>hI _)) k 0 (by omega) rfl rfl)) ?_
 refine J2 ?_
 refine SV.split gno (Step.eql rfl rfl) rfl (fun heq=>?_) (fun heq=>?_)
 refine SV.nil ?_
 refine J15 ?_
 refine J3 ?_
 refine E0 ?_
 exact Rb rfl rfl ⟨false,rfl,⟨fun h=>absurd h (by decide),fun hk=>absurd hk (fun hk=>fn_dup (i:=i) (by omega) (by omega) heq hk.ow)⟩,rfl⟩
 refine SV.nil ?_
 refine J11 ?_
 refine E3 ?_
 exact KV.loopI (z:=k) (k+1) ⟨by omega,vd_step (ds:=ds) (P:=fun j=>(ds.getD j bdK.d).fn≠(ds.getD i bdK.d).fn) hinv2.2 heq⟩ (by omega) (sb rfl) (fun _ h=>h)
 refine J9 ?_
 obtain rfl:i=k:=by omega
 refine J3 ?_
 refine RV.op (Yc [] (F:=[_,_,_]) rfl rfl (fun w h=>Dv.rparse_fn (ds.getD i bdK.d).drv (hb _ (by omega)).2.2.2) (fun v L' hp=>?_))
 obtain⟨dv,rfl,hdv,rfl⟩:=hp
 unfold Go.Drv.dL
 refine J3 ?_
 refine RV.op (OV.alloc #[.string (Sv.bs []),.slice none 0 0,.slice none 0 0] I66.h rfl gno rfl (fun b14_6=>?_))
 refine Zw 6 [_,_,_] #[_,_,_] ?_
 refine J8 ?_
 refine Jlt rfl rfl (fun hf0=>?_) (fun hf0=>?_)
 refine J15 ?_
 refine J15 ?_
 refine J8 ?_
 refine E0 ?_
 exact Rb rfl rfl ⟨false,rfl,⟨fun h=>absurd h (by decide),fun hk=>absurd hk (fun hk=>by have hk:=hk.un i (by omega);first|(have:=hk.1;omega)|exact hc hk.2.2.1|exact hfit (hts▸hk.2.2.2))⟩,rfl⟩
 refine J3 ?_
 refine Jge rfl rfl (fun hf1=>?_) (fun hf1=>?_)
 refine J15 ?_
 refine J15 ?_
 refine J4 ?_
 refine E0 ?_
 exact Rb rfl rfl ⟨false,rfl,⟨fun h=>absurd h (by decide),fun hk=>absurd hk (fun hk=>by have hk:=hk.un i (by omega);first|(have:=hk.1;omega)|exact hc hk.2.2.1|exact hfit (hts▸hk.2.2.2))⟩,rfl⟩
 refine J8 ?_
 refine Jne rfl rfl (fun hf2=>?_) (fun hf2=>?_)
 refine J15 ?_
 refine J10 ?_
 refine E0 ?_
 exact Rb rfl rfl ⟨false,rfl,⟨fun h=>absurd h (by decide),fun hk=>absurd hk (fun hk=>by have hk:=hk.un i (by omega);first|(have:=hk.1;omega)|exact hc hk.2.2.1|exact hfit (hts▸hk.2.2.2))⟩,rfl⟩
 refine J3 ?_
 refine Jne rfl rfl (fun hc=>?_) (fun hc=>?_)
 refine J15 ?_
 refine J6 ?_
 refine E0 ?_
 exact Rb rfl rfl ⟨false,rfl,⟨fun h=>absurd h (by decide),fun hk=>absurd hk (fun hk=>by have hk:=hk.un i (by omega);first|(have:=hk.1;omega)|exact hc hk.2.2.1|exact hfit (hts▸hk.2.2.2))⟩,rfl⟩
 have hp0:=Decidable.not_not.1 hc
 have hck:Go.Drv.chkM dv.d=0:=by rw[hdv];exact parse_chk hp0
 have hbn:=Dv.chk_bnd hck
 have hts:dv.hs.map (·.t)=(Go.Drv.parseM (ds.getD i bdK.d).drv).2.ts:=congrArg Go.Drv.Dv.ts hdv
 have hol: ∀i,i<dv.hs.length→(dv.hs.getD i Go.Drv.thK.d).t.ops.length≤1000000:=fun i hi=>Nat.le_trans (hbn.o i hi) (by decide)
 refine J3 ?_
 refine RV.op (Yc [] (F:=[_,_,_,_,_,_,_]) rfl rfl (fun w h=>fits_fn dv (Dv.DR.ofHp (k1:=3) (k2:=4) (k3:=5) h rfl rfl rfl rfl) (Nat.le_trans hbn.t (by decide)) hol) (fun v L' hp=>?_))
 obtain⟨rfl,rfl⟩:=hp
 by_cases hfit:fitD (dv.hs.map (·.t))
 rw[decide_eq_true hfit]
 refine J9 ?_
 have hs1:(ds.getD i bdK.d).pw.r1.ys.length≤1000000:=(hb i (by omega)).2.1 1 (by decide)
 have hs2:(ds.getD i bdK.d).pw.r2.ys.length≤1000000:=(hb i (by omega)).2.1 2 (by decide)
 have hs3:(ds.getD i bdK.d).pw.r3.ys.length≤1000000:=(hb i (by omega)).2.1 3 (by decide)
 refine J3 ?_
 refine Jr (Step.idxArr Tryz.underlying33 I32.h rfl rfl _ (show(1:Int)=((1:Nat):Int) from rfl) (by omega)) ?_
 refine J4 ?_
 refine Jr (Step.idxArr Tryz.underlying33 I32.h rfl rfl _ (show(2:Int)=((2:Nat):Int) from rfl) (by omega)) ?_
 refine J5 ?_
 refine Jr (Step.idxArr Tryz.underlying33 I32.h rfl rfl _ (show(3:Int)=((3:Nat):Int) from rfl) (by omega)) ?_
 refine J3 ?_
 refine Jgt rfl rfl (fun hrl=>?_) (fun hrl=>?_)
 refine J15 ?_
 refine E0 ?_
 exact Rb rfl rfl ⟨false,rfl,⟨fun h=>absurd h (by decide),fun hk=>absurd hk (fun hk=>unOk_len (hk.un _ (by omega)) hrl)⟩,rfl⟩
 refine J5 ?_
 refine An (Hp I w [Blk b8_4 (.cells (bdC (ds.getD i bdK.d)).toArray 41 (0,0))]) 12 ?_
 refine W 0 ?_
 refine W 1 ?_
 refine Wt 2 rfl (Tw rfl (fun w h=>h.cellsO 0 1 (pdC (ds.getD i bdK.d).pw) rfl rfl)) ?_
 refine W 5 ?_
 refine W 6 ?_
 refine Wt 7 rfl (Tw rfl (fun w h=>h.cellsO 0 14 (idK.f (ds.getD i bdK.d).il) rfl rfl)) ?_
 refine V2 3 8 ?_ ?_
 refine OV.buildSlice (K:=pdK) ([(ds.getD i bdK.d).pw]) rfl (Bs97_1_0 _ _ _ _ _ _ _ _ _ _ _ _ _) rfl rfl (by omega) gno rfl (fun b19_3=>?_)
 refine Wn ?_
 refine V2 4 8 ?_ ?_
 refine Ye 0 rfl rfl rfl rfl rfl (fun w h=>h.os 7 rfl) (by simp only[List.length_map,List.length_take,List.length_cons,List.length_nil];omega) (fun pA2 pc2=>?_)
 refine Wn ?_
 refine V1 8 ?_
 refine OV.buildSlice (K:=idK) ([(ds.getD i bdK.d).il]) rfl (Bs131_1_0 _ _ _) rfl rfl (by omega) gno rfl (fun b19_8=>?_)
 refine Wn ?_
 refine V1 9 ?_
 refine Ye 1 rfl rfl rfl rfl rfl (fun w h=>h.os 8 rfl) (by simp only[List.length_map,List.length_take,List.length_cons,List.length_nil];omega) (fun iA2 ic2=>?_)
 refine Wn ?_
 refine W 10 ?_
 refine W 11 ?_
 refine Vd ?_
 refine J8 ?_
 refine E2 ?_
 exact KV.loop2 (x:=i) (y:=z) (i+1) (⟨[],none,0,pA2,pc2,iA2,ic2⟩) ⟨by omega,vd_step (ds:=ds) (P:=fun j=>unOk (ds.getD j bdK.d)) hinv.2.1 (unOk_of (by omega) (by omega) (by omega) hrl hp0 (hts▸hfit)),vd_step (ds:=ds) (P:=fun j=> ∀k,k<j→(ds.getD k bdK.d).fn≠(ds.getD j bdK.d).fn) hinv.2.2 hinv2.2⟩ (by omega) ⟨rfl,rfl,(congrArg (fun l=>some (Value.slice pA2 (List.length l) pc2)) (tk_snoc (·.pw) ds bdK.d (by omega)).symm),(congrArg (fun l=>some (Value.slice iA2 (List.length l) ic2)) (tk_snoc (·.il) ds bdK.d (by omega)).symm),rfl,trivial⟩ (fun _ h=>by rw[tk_snoc (·.pw) ds bdK.d (by omega),tk_snoc (·.il) ds bdK.d (by omega)];exact h)
 refine OV.buildSlice (K:=idK) ([(ds.getD i bdK.d).il]) rfl (Bs131_1_0 _ _ _) rfl rfl (by omega) gno rfl (fun b19_8=>?_)
 refine Wn ?_
 refine V1 4 ?_
 refine Ye 0 rfl rfl rfl rfl rfl (fun w h=>h.os 7 rfl) (by simp only[List.length_map,List.length_take,List.length_cons,List.length_nil];omega) (fun pA2 pc2=>?_)
 refine Wn ?_
 refine V1 9 ?_
 refine Ye 1 rfl rfl rfl rfl rfl (fun w h=>h.os 8 rfl) (by simp only[List.length_map,List.length_take,List.length_cons,List.length_nil];omega) (fun iA2 ic2=>?_)
 refine Wn ?_
 refine W 10 ?_
 refine W 11 ?_
 refine Vd ?_
 refine J8 ?_
 refine E2 ?_
 exact KV.loop2 (x:=i) (y:=z) (i+1) (⟨[],none,0,pA2,pc2,iA2,ic2⟩) ⟨by omega,vd_step (ds:=ds) (P:=fun j=>unOk (ds.getD j bdK.d)) hinv.2.1 (unOk_of (by omega) (by omega) (by omega) hrl hp0 (hts▸hfit)),vd_step (ds:=ds) (P:=fun j=> ∀k,k<j→(ds.getD k bdK.d).fn≠(ds.getD j bdK.d).fn) hinv.2.2 hinv2.2⟩ (by omega) ⟨rfl,rfl,(congrArg (fun l=>some (Value.slice pA2 (List.length l) pc2)) (tk_snoc (·.pw) ds bdK.d (by omega)).symm),(congrArg (fun l=>some (Value.slice iA2 (List.length l) ic2)) (tk_snoc (·.il) ds bdK.d (by omega)).symm),rfl,trivial⟩ (fun _ h=>by rw[tk_snoc (·.pw) ds bdK.d (by omega),tk_snoc (·.il) ds bdK.d (by omega)];exact h)
 refine OV.buildSlice (K:=idK) ([(ds.getD i bdK.d).il]) rfl (Bs131_1_0 _ _ _) rfl rfl (by omega) gno rfl (fun b19_8=>?_)
 refine Wn ?_
 refine V1 3 ?_
 refine OV.buildSlice (K:=pdK) ([(ds.getD i bdK.d).pw]) rfl (Bs97_1_0 _ _ _ _ _ _ _ _ _ _ _ _ _) rfl rfl (by omega) gno rfl (fun b19_3=>?_)
 refine Wn ?_
 refine V1 4 ?_
 refine Ye 0 rfl rfl rfl rfl rfl (fun w h=>h.os 8 rfl) (by simp only[List.length_map,List.length_take,List.length_cons,List.length_nil];omega) (fun pA2 pc2=>?_)
 refine Wn ?_
 refine V1 9 ?_
 refine Ye 1 rfl rfl rfl rfl rfl (fun w h=>h.os 7 rfl) (by simp only[List.length_map,List.length_take,List.length_cons,List.length_nil];omega) (fun iA2 ic2=>?_)
 refine Wn ?_
 refine W 10 ?_
 refine W 11 ?_
 refine Vd ?_
 refine J8 ?_
 refine E2 ?_
 exact KV.loop2 (x:=i) (y:=z) (i+1) (⟨[],none,0,pA2,pc2,iA2,ic2⟩) ⟨by omega,vd_step (ds:=ds) (P:=fun j=>unOk (ds.getD j bdK.d)) hinv.2.1 (unOk_of (by omega) (by omega) (by omega) hrl hp0 (hts▸hfit)),vd_step (ds:=ds) (P:=fun j=> ∀k,k<j→(ds.getD k bdK.d).fn≠(ds.getD j bdK.d).fn) hinv.2.2 hinv2.2⟩ (by omega) ⟨rfl,rfl,(congrArg (fun l=>some (Value.slice pA2 (List.length l) pc2)) (tk_snoc (·.pw) ds bdK.d (by omega)).symm),(congrArg (fun l=>some (Value.slice iA2 (List.length l) ic2)) (tk_snoc (·.il) ds bdK.d (by omega)).symm),rfl,trivial⟩ (fun _ h=>by rw[tk_snoc (·.pw) ds bdK.d (by omega),tk_snoc (·.il) ds bdK.d (by omega)];exact h)
 rw[decide_eq_false hfit]
 refine J15 ?_
 refine J2 ?_
 refine E0 ?_
 exact Rb rfl rfl ⟨false,rfl,⟨fun h=>absurd h (by decide),fun hk=>absurd hk (fun hk=>by have hk:=hk.un i (by omega);first|(have:=hk.1;omega)|exact hc hk.2.2.1|exact hfit (hts▸hk.2.2.2))⟩,rfl⟩
 refine J9 ?_
 obtain rfl:i=ds.length:=by omega
 simp only[List.take_length]
 refine J3 ?_
 refine RV.op (Yc [] (F:=[_,_]) rfl rfl (fun w h=>ref27New_fn (h.os 0 rfl) (by rw[List.length_map];exact hl) rfl (fun i hi k hk=>by rw[List.length_map] at hi;rw[pw_at ds hi];exact h.rs ((hb i hi).1 k hk) (fun _=>hI _)) (fun i hi=>by rw[List.length_map] at hi;rw[pw_at ds hi];exact(hb i hi).2.1) (h.rs hr2 (fun _=>hI _)) rfl hl2) (fun v L' hp=>?_))
 by_cases hnt:newT (pwL ds) rs=0
 obtain⟨t,rfl,ht,rfl⟩:=hp.1 hnt
 refine KV.heap (fun w h=>h.sel [0,0] (show picks [0,0] ([_,_]++trL t)=some ([_,_],trL t) from rfl)) ?_
 refine J10 ?_
 refine RV.op (Yc [] (F:=[_,_]) rfl rfl (fun w h=>ref28New_fn (h.os 1 rfl) rfl (by rw[List.length_map];exact hl) (fun i hi=>by rw[List.length_map] at hi;rw[il_at ds hi];exact h.rs (hb i hi).2.2.1 (fun _=>hI _))) (fun v L' hp=>?_))
 by_cases hng:newI (ilL ds)=0
 obtain⟨g,rfl,hg,rfl⟩:=hp.1 hng
 refine KV.heap (fun w h=>h.sel [0,0] (show picks [0,0] ([_,_]++rmL g)=some ([_,_],rmL g) from rfl)) ?_
 refine J10 ?_
 refine Jeq rfl rfl (fun hq1=>?_) (fun hq1=>?_)
 refine J2 ?_
 refine Jeq rfl rfl (fun hq2=>?_) (fun hq2=>?_)
 refine J5 ?_
 refine E0 ?_
 have hd9:ds.length≤16∧bs.length=ds.length:=by omega
 exact KV.ret1 rfl rfl _ (fun _ h=>h) ⟨true,rfl,⟨fun _=>⟨hd9.1,hd9.2,haln,hinv.2.1,fn_nd hinv.2.2,hnt,hng⟩,fun _=>rfl⟩,rfl⟩
 refine J5 ?_
 refine E0 ?_
 have hd9:ds.length≤16∧bs.length=ds.length:=by omega
 exact absurd rfl hq2
 refine J8 ?_
 refine E0 ?_
 have hd9:ds.length≤16∧bs.length=ds.length:=by omega
 exact absurd rfl hq1
 obtain⟨rfl,rfl⟩:=hp.2 hng
 simp only[List.append_nil]
 refine J10 ?_
 refine Jeq rfl rfl (fun hq1=>?_) (fun hq1=>?_)
 refine J2 ?_
 refine Jeq rfl rfl (fun hq2=>?_) (fun hq2=>?_)
 refine J5 ?_
 refine E0 ?_
 have hd9:ds.length≤16∧bs.length=ds.length:=by omega
 exact absurd hq2 hng
 refine J5 ?_
 refine E0 ?_
 have hd9:ds.length≤16∧bs.length=ds.length:=by omega
 exact KV.ret1 rfl rfl _ (fun _ h=>h) ⟨false,rfl,⟨fun h=>absurd h (by decide),fun hk=>absurd hk (fun hk=>hng hk.mg)⟩,rfl⟩
 refine J8 ?_
 refine E0 ?_
 have hd9:ds.length≤16∧bs.length=ds.length:=by omega
 exact KV.ret1 rfl rfl _ (fun _ h=>h) ⟨false,rfl,⟨fun h=>absurd h (by decide),fun hk=>absurd hk (fun hk=>hng hk.mg)⟩,rfl⟩
 obtain⟨rfl,rfl⟩:=hp.2 hnt
 simp only[List.append_nil]
 refine J10 ?_
 refine RV.op (Yc [] (F:=[_,_]) rfl rfl (fun w h=>ref28New_fn (h.os 1 rfl) rfl (by rw[List.length_map];exact hl) (fun i hi=>by rw[List.length_map] at hi;rw[il_at ds hi];exact h.rs (hb i hi).2.2.1 (fun _=>hI _))) (fun v L' hp=>?_))
 by_cases hng:newI (ilL ds)=0
 obtain⟨g,rfl,hg,rfl⟩:=hp.1 hng
 refine KV.heap (fun w h=>h.sel [0,0] (show picks [0,0] ([_,_]++rmL g)=some ([_,_],rmL g) from rfl)) ?_
 refine J10 ?_
 refine Jeq rfl rfl (fun hq1=>?_) (fun hq1=>?_)
 refine J2 ?_
 refine Jeq rfl rfl (fun hq2=>?_) (fun hq2=>?_)
 refine J5 ?_
 refine E0 ?_
 have hd9:ds.length≤16∧bs.length=ds.length:=by omega
 exact absurd hq1 hnt
 refine J5 ?_
 refine E0 ?_
 have hd9:ds.length≤16∧bs.length=ds.length:=by omega
 exact absurd hq1 hnt
 refine J8 ?_
 refine E0 ?_
 have hd9:ds.length≤16∧bs.length=ds.length:=by omega
 exact KV.ret1 rfl rfl _ (fun _ h=>h) ⟨false,rfl,⟨fun h=>absurd h (by decide),fun hk=>absurd hk (fun hk=>hnt hk.tr)⟩,rfl⟩
 obtain⟨rfl,rfl⟩:=hp.2 hng
 simp only[List.append_nil]
 refine J10 ?_
 refine Jeq rfl rfl (fun hq1=>?_) (fun hq1=>?_)
 refine J2 ?_
 refine Jeq rfl rfl (fun hq2=>?_) (fun hq2=>?_)
 refine J5 ?_
 refine E0 ?_
 have hd9:ds.length≤16∧bs.length=ds.length:=by omega
 exact absurd hq1 hnt
 refine J5 ?_
 refine E0 ?_
 have hd9:ds.length≤16∧bs.length=ds.length:=by omega
 exact absurd hq1 hnt
 refine J8 ?_
 refine E0 ?_
 have hd9:ds.length≤16∧bs.length=ds.length:=by omega
 exact KV.ret1 rfl rfl _ (fun _ h=>h) ⟨false,rfl,⟨fun h=>absurd h (by decide),fun hk=>absurd hk (fun hk=>hnt hk.tr)⟩,rfl⟩
 rw[decide_eq_false haln]
 refine J12 ?_
 refine E0 ?_
 exact Rb rfl rfl ⟨false,rfl,⟨fun h=>absurd h (by decide),fun hk=>absurd hk (fun hk=>by first|(have:=hk.n;have:=hk.nb;omega)|exact haln hk.aln)⟩,rfl⟩
end Go.Proofs.YtkofjhglgoojiaaGreatDoor.Pw
