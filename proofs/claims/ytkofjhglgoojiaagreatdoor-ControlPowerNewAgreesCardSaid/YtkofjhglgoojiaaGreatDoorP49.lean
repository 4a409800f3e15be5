/-
  Joined.
-/
import Derived.Test.YtkofjhglgoojiaaGreatDoorP48
set_option linter.unusedSimpArgs false
set_option linter.unusedVariables false
namespace Go.Proofs.YtkofjhglgoojiaaGreatDoor.Pw
set_option maxRecDepth 100000
set_option maxHeartbeats 20000000
open Go.Tk Go.Sv Go.Rails Go.Dg Go.Pw
attribute [local irreducible] KV SV OV Step Code.wp wpList Exit.then Exit.inBlock Blk OS Big Bun
theorem devices_fn {A B C:Option Addr} {n c m d q e:Nat} {raw:List BDv} {drs:List Go.Drv.DH} {rails:List Rail} {w:World} (hr:RS w bdK A raw) (hn:n=raw.length) (hl:raw.length≤1000000) (hb: ∀i,i<raw.length→(raw.getD i bdK.d).inn w) (hdy: ∀i,i<raw.length→0≤(raw.getD i bdK.d).il.dly) (hr2:RS w dhK B drs) (hm:m=drs.length) (hdr: ∀i,i<drs.length→Go.Drv.DR w (drs.getD i dhK.d)∧(drs.getD i dhK.d).ss.length≤1000000∧Go.Drv.rgD (drs.getD i dhK.d).d) (hr3:RS w railK C rails) (hq:q=rails.length) (hsl:(someM rails).length≤1000000) (arr:Int):Fx Tryz.prog 6 [.slice A n c,.slice B m d,.slice C q e,.int .i64 arr] w [] no (fun v L=> ∃(z:HG) (rA:Option Addr) (rc:Nat),v= .agg #[.slice z.dA z.ds.length z.dc,.slice rA (someM rails).length rc,.slice z.bA z.bs.length z.bc]∧L=[OS 41 bdK z.dA z.dc z.ds,Big hwF z.ds,OS 183 railK rA rc (someM rails),OS 37 (intK .u64) z.bA z.bc z.bs]∧(z.ds.length≤6∧z.ds.length≤raw.length∧z.bs.length=z.ds.length)∧ ∀i,i<z.ds.length→GenD (z.ds.getD i bdK.d) i (someM rails).length arr drs∧z.bs.getD i (intK .u64).d=plcM i arr):=by
 subst hn
 subst hm
 subst hq
 refine Fb ?_
 intro I hro hI
 refine J2 ?_
 refine RV.op (Ya (fun b0_0=>?_))
 refine E1 ?_
 refine J5 ?_
 refine RV.op (Yc [] (F:=[_]) rfl rfl (fun w h=>Rl.some_fn (h.rs hr3 (fun _=>hI _))) (fun v L' hp=>?_))
 obtain⟨rA,rc,rfl,rfl⟩:=hp
 refine E2 ?_
 refine Jr (Step.build rfl (Bd29_1 _ _ _)) ?_
 refine RV.op (Ya (fun b1_3=>?_))
 refine E3 ?_
 refine Zw 2 [_,_,_] #[_,_,_] ?_
 refine E3 ?_
 refine J7 ?_
 refine CV.join3 (fun(p0:{i:Nat//i≤6∧i≤raw.length}) (pA:Option Addr) (pc:Nat)=>[(0,.slice A raw.length c),(1,.slice B drs.length d),(3,.int .i64 arr),(8,.pointer (some ⟨b0_0,0,none⟩)),(9,.pointer (some ⟨b1_3,0,none⟩)),(10,.slice pA ((raw.take p0.1).map (·.pw)).length pc)]) (fun(p0:{i:Nat//i≤6∧i≤raw.length}) (pA:Option Addr) (pc:Nat)=>Hp I w [Blk b0_0 (.cells #[.slice none 0 0,.slice none 0 0,.slice none 0 0] 29 (0,0)),OS 183 railK rA rc (someM rails),Blk b1_3 (.cells #[.slice none 0 0,.slice rA (someM rails).length rc,.slice none 0 0] 29 (0,0)),OS 36 pdK pA pc ((raw.take p0.1).map (·.pw))]) ?_ ?_
 refine J1 ?_
 refine KV.heap (fun w h=>show Hp _ _ [_,_,_,_] _ from h.nilOS (e:=36) (K:=pdK)) ?_
 refine J5 ?_
 refine E4 ?_
 refine CV.loop2 (fun(k:Nat) (x:LG)=>k≤6∧k≤raw.length) (fun(k:Nat) (x:LG)=>6-k) (fun(k:Nat) (x:LG)=>[(0,.slice A raw.length c),(1,.slice B drs.length d),(3,.int .i64 arr),(8,.pointer (some ⟨b0_0,0,none⟩)),(9,.pointer (some ⟨b1_3,0,none⟩)),(10,.slice x.A ((raw.take k).map (·.pw)).length x.c),(11,.int .i64 k)]) (fun(k:Nat) (x:LG)=>Hp I w [Blk b0_0 (.cells #[.slice none 0 0,.slice none 0 0,.slice none 0 0] 29 (0,0)),OS 183 railK rA rc (someM rails),Blk b1_3 (.cells #[.slice none 0 0,.slice rA (someM rails).length rc,.slice none 0 0] 29 (0,0)),OS 36 pdK x.A x.c ((raw.take k).map (·.pw))]) (0) (⟨none,0⟩) ⟨Nat.zero_le _,Nat.zero_le _⟩ (sb rfl) (fun _ h=>h) ?_
 intro k x hinv
 refine J6 ?_
 refine Jlt rfl rfl (fun cc1=>?_) (fun cc1=>?_)
 refine J2 ?_
 refine Jlt rfl rfl (fun cc2=>?_) (fun cc2=>?_)
 refine J14 ?_
 refine Jr (Tw rfl (fun w h=>fun j v hv=>(h.rs hr (fun _=>hI _)).cellAt k (1+j) (by omega) (by show of A+k* 18+1+j=of A+k* 18+(1+j);omega) (bd_pw _ j v hv))) ?_
 refine RV.op (OV.buildSlice (K:=pdK) ([(raw.getD k bdK.d).pw]) rfl (Bs97_1_0 _ _ _ _ _ _ _ _ _ _ _ _ _) rfl rfl (by omega) gno rfl (fun b6_6=>?_))
 refine E5 ?_
 refine RV.op (Ye 3 rfl rfl rfl rfl rfl (fun w h=>h.os 4 rfl) (by simp only[List.length_map,List.length_take,List.length_cons,List.length_nil];omega) (fun pA pc=>?_))
 refine E5 ?_
 refine J10 ?_
 refine E4 ?_
 exact KV.loop2 (x:=k) (y:=x) (k+1) (⟨pA,pc⟩) ⟨by omega,by omega⟩ (by omega) ⟨rfl,rfl,rfl,rfl,rfl,(congrArg (fun l=>some (Value.slice pA (List.length l) pc)) (tk_snoc (·.pw) raw bdK.d (by omega)).symm),rfl,trivial⟩ (fun _ h=>by rw[tk_snoc (·.pw) raw bdK.d (by omega)];exact h)
 refine J9 ?_
 refine E4 ?_
 exact KV.join3 (⟨k,by omega,by omega⟩) (x.A) (x.c) (sb rfl) (fun _ h=>h)
 refine J12 ?_
 refine E4 ?_
 exact KV.join3 (⟨k,by omega,by omega⟩) (x.A) (x.c) (sb rfl) (fun _ h=>h)
 intro p0 pA pc
 refine J6 ?_
 refine RV.op (Yc [] (F:=[_,_,_,_]) rfl rfl (fun w h=>someD_fn (someM rails).length (h.os 3 rfl) rfl (by rw[List.length_map,List.length_take];omega) (fun i hi k hk=>by have hpk:=pk_at raw p0.1 hi;rw[hpk.2];exact h.rs ((hb i hpk.1).1 k hk) (fun _=>hI _)) (fun i hi=>by have hpk:=pk_at raw p0.1 hi;rw[hpk.2];exact(hb i hpk.1).2.1) hsl) (fun v L' hp=>?_))
 obtain⟨y,rfl,rfl,hy6,hyl,hye⟩:=hp
 rw[List.length_map,List.length_take] at hyl
 refine E6 ?_
 refine J5 ?_
 refine KV.heap (fun w h=>show Hp _ _ [_,_,_,_,_,_,_,_,_] _ from((Hp.nilBig (F:=hwF) (h.nilOS (e:=41) (K:=bdK))).nilOS (e:=37) (K:=intK .u64))) ?_
 refine J5 ?_
 refine K8 [0,0,0,1,1,1,1,1] rfl ?_
 refine CV.loop2 (fun(i:Nat) (z:HG)=>(i≤y.es.length∧z.ds.length=i∧z.bs.length=i)∧ ∀j,j<i→GenD (z.ds.getD j bdK.d) j (someM rails).length arr drs∧z.bs.getD j (intK .u64).d=plcM j arr) (fun(i:Nat) (z:HG)=>y.es.length-i) (fun(i:Nat) (z:HG)=>[(0,.slice A raw.length c),(1,.slice B drs.length d),(3,.int .i64 arr),(8,.pointer (some ⟨b0_0,0,none⟩)),(9,.pointer (some ⟨b1_3,0,none⟩)),(10,.slice y.A y.es.length y.c),(12,.int .i64 i)]) (fun(i:Nat) (z:HG)=>Hp I w [Blk b0_0 (.cells #[.slice none 0 0,.slice none 0 0,.slice none 0 0] 29 (0,0)),OS 183 railK rA rc (someM rails),Blk b1_3 (.cells #[.slice z.dA z.ds.length z.dc,.slice rA (someM rails).length rc,.slice z.bA z.bs.length z.bc] 29 (0,0)),OS 36 pdK y.A y.c y.es,Big pdF (y.es.drop i),OS 41 bdK z.dA z.dc z.ds,Big hwF z.ds,OS 37 (intK .u64) z.bA z.bc z.bs]) (0) (⟨none,0,[],none,0,[]⟩) ⟨⟨Nat.zero_le _,rfl,rfl⟩,fun _ h=>by omega⟩ (sb rfl) (fun _ h=>h) ?_
 intro i z hinv
 refine J6 ?_
 refine Jlt rfl rfl (fun cc3=>?_) (fun cc3=>?_)
 refine J8 ?_
 have hma:=modM_lt arr (n:=9) (by decide)
 refine J5 ?_
 refine RV.op (Ya (fun b11_4=>?_))
 refine E9 ?_
 refine Zw 8 [_,_,_,_,_,_,_,_,_,_,_,_,_] #[_,_,_,_,_,_,_,_,_,_,_,_,_] ?_
 refine E9 ?_
 refine J5 ?_
 refine Jr (Step.idxArr Tryz.underlying33 I32.h rfl rfl _ (show(1:Int)=((1:Nat):Int) from rfl) (by omega)) ?_
 refine Zw 8 [_] #[_,_,_,_,_,_,_,_,_,_,_,_,_] ?_
 refine E9 ?_
 refine J1 ?_
 refine Jr (Step.idxArr Tryz.underlying33 I32.h rfl rfl _ (show(2:Int)=((2:Nat):Int) from rfl) (by omega)) ?_
 refine Zw 8 [_] #[_,_,_,_,_,_,_,_,_,_,_,_,_] ?_
 refine E9 ?_
 refine J1 ?_
 refine Jr (Step.idxArr Tryz.underlying33 I32.h rfl rfl _ (show(3:Int)=((3:Nat):Int) from rfl) (by omega)) ?_
 refine Zw 8 [_] #[_,_,_,_,_,_,_,_,_,_,_,_,_] ?_
 refine E9 ?_
 refine J2 ?_
 refine CV.join (fun(b13:Nat)=>[(0,.slice A raw.length c),(1,.slice B drs.length d),(3,.int .i64 arr),(8,.pointer (some ⟨b0_0,0,none⟩)),(9,.pointer (some ⟨b1_3,0,none⟩)),(10,.slice y.A y.es.length y.c),(12,.int .i64 i),(13,.pointer (some ⟨b11_4,0,none⟩)),(14,.pointer (some ⟨b13,0,none⟩))]) (fun(b13:Nat)=>Hp I w [Blk b0_0 (.cells #[.slice none 0 0,.slice none 0 0,.slice none 0 0] 29 (0,0)),OS 183 railK rA rc (someM rails),Blk b1_3 (.cells #[.slice z.dA z.ds.length z.dc,.slice rA (someM rails).length rc,.slice z.bA z.bs.length z.bc] 29 (0,0)),OS 36 pdK y.A y.c y.es,OS 41 bdK z.dA z.dc z.ds,Big hwF z.ds,OS 37 (intK .u64) z.bA z.bc z.bs,Blk b11_4 (.cells (pdC (clrP (y.es.getD i pdK.d))).toArray 36 (0,0)),Big pdF (y.es.drop (i+1)),pdF (clrP (y.es.getD i pdK.d)),Blk b13 (.cells #[.int .i64 (((i:Int)* 7+modM arr 9)%200),.int .i64 (y.es.getD i pdK.d).par,.slice (y.es.getD i pdK.d).r0.A (y.es.getD i pdK.d).r0.ys.length (y.es.getD i pdK.d).r0.c,.slice none 0 0,.slice none 0 0,.slice none 0 0,.int .i64 (y.es.getD i pdK.d).d0,.int .i64 (y.es.getD i pdK.d).d1,.int .i64 (y.es.getD i pdK.d).d2,.int .i64 (y.es.getD i pdK.d).d3,.int .i64 (y.es.getD i pdK.d).d4,.int .i64 (y.es.getD i pdK.d).d5,.int .i64 (y.es.getD i pdK.d).wd,.int .i64 (y.es.getD i pdK.d).ws,.int .i64 (y.es.getD i pdK.d).par,.slice none 0 0,.int .u64 ((raw.getD i bdK.d).il.dly%12),.string (bs [])] 41 (0,0))]) ?_ ?_
 refine K9 [0,0,0,0,1,1,1,1,0] rfl ?_
 refine KV.heap (fun w h=>show Hp _ _ [_,_,_,_,_,_,_,_,_,_] _ from pdClr (X:=[_,_,_,_,_,_,_,_,_]) (by have h2:=bigHd (X:=[_,_,_,_,_,_,_,_]) pdK.d (i:=i) (by omega) h;exact h2)) ?_
 refine An (Hp I w [Blk b11_4 (.cells (pdC (clrP (y.es.getD i pdK.d))).toArray 36 (0,0))]) 20 ?_
 refine W 0 ?_
 refine W 1 ?_
 refine W 2 ?_
 refine W 6 ?_
 refine W 7 ?_
 refine W 8 ?_
 refine W 9 ?_
 refine W 10 ?_
 refine W 11 ?_
 refine W 12 ?_
 refine W 13 ?_
 refine Wt 14 rfl (Tc rfl (fun w h=>RS.cellAt (h.rs hr (fun _=>hI _)) i 16 (by omega) rfl rfl)) ?_
 refine Wt 15 rfl (Step.rem rfl rfl (by omega) (Int.tmod_eq_emod_of_nonneg (hdy i (by omega)))) ?_
 refine Wt 16 rfl (Step.build rfl (Bd39_0_2 _ _)) ?_
 refine V2 3 18 ?_ ?_
 refine Yp rfl (Rl.mod_fn arr 9 (by decide) (by decide)) ?_
 refine E10 ?_
 refine Wn ?_
 refine W 4 ?_
 refine Wt 5 rfl (Step.rem rfl rfl (by omega) (Int.tmod_eq_emod_of_nonneg (by omega))) ?_
 refine Wt 17 rfl (Step.build rfl (Bd41_0_1_2 _ _ _ _ _ _ _ _ _ _ _ _ _ _ _ _ _)) ?_
 refine V1 18 ?_
 refine OV.alloc #[.int .i64 0,.int .i64 0,.slice none 0 0,.slice none 0 0,.slice none 0 0,.slice none 0 0,.int .i64 0,.int .i64 0,.int .i64 0,.int .i64 0,.int .i64 0,.int .i64 0,.int .i64 0,.int .i64 0,.int .i64 0,.slice none 0 0,.int .u64 0,.string (Sv.bs [])] I41.h rfl gno rfl (fun b13=>?_)
 refine E11 ?_
 refine Wn ?_
 refine V1 19 ?_
 refine Yw 10 [_,_,_,_,_,_,_,_,_,_,_,_,_,_,_,_,_,_] #[_,_,_,_,_,_,_,_,_,_,_,_,_,_,_,_,_,_] rfl rfl rfl rfl rfl ?_
 refine E11 ?_
 refine Wn ?_
 refine Vd ?_
 refine J1 ?_
 refine E11 ?_
 exact KV.join (b13) (sb rfl) (fun _ h=>h)
 refine OV.alloc #[.int .i64 0,.int .i64 0,.slice none 0 0,.slice none 0 0,.slice none 0 0,.slice none 0 0,.int .i64 0,.int .i64 0,.int .i64 0,.int .i64 0,.int .i64 0,.int .i64 0,.int .i64 0,.int .i64 0,.int .i64 0,.slice none 0 0,.int .u64 0,.string (Sv.bs [])] I41.h rfl gno rfl (fun b13=>?_)
 refine E11 ?_
 refine Wn ?_
 refine V1 3 ?_
 refine Yp rfl (Rl.mod_fn arr 9 (by decide) (by decide)) ?_
 refine E11 ?_
 refine Wn ?_
 refine W 4 ?_
 refine Wt 5 rfl (Step.rem rfl rfl (by omega) (Int.tmod_eq_emod_of_nonneg (by omega))) ?_
 refine Wt 17 rfl (Step.build rfl (Bd41_0_1_2 _ _ _ _ _ _ _ _ _ _ _ _ _ _ _ _ _)) ?_
 refine V1 19 ?_
 refine Yw 10 [_,_,_,_,_,_,_,_,_,_,_,_,_,_,_,_,_,_] #[_,_,_,_,_,_,_,_,_,_,_,_,_,_,_,_,_,_] rfl rfl rfl rfl rfl ?_
 refine E11 ?_
 refine Wn ?_
 refine Vd ?_
 refine J1 ?_
 refine E11 ?_
 exact KV.join (b13) (sb rfl) (fun _ h=>h)
 intro b13
 refine CV.join (fun(q:{h:Hd//SupO h.ys i (y.es.getD i pdK.d).par∧h.ys.length≤6})=>[(0,.slice A raw.length c),(1,.slice B drs.length d),(3,.int .i64 arr),(8,.pointer (some ⟨b0_0,0,none⟩)),(9,.pointer (some ⟨b1_3,0,none⟩)),(10,.slice y.A y.es.length y.c),(12,.int .i64 i),(14,.pointer (some ⟨b13,0,none⟩))]) (fun(q:{h:Hd//SupO h.ys i (y.es.getD i pdK.d).par∧h.ys.length≤6})=>Hp I w [Blk b0_0 (.cells #[.slice none 0 0,.slice none 0 0,.slice none 0 0] 29 (0,0)),OS 183 railK rA rc (someM rails),Blk b1_3 (.cells #[.slice z.dA z.ds.length z.dc,.slice rA (someM rails).length rc,.slice z.bA z.bs.length z.bc] 29 (0,0)),OS 36 pdK y.A y.c y.es,OS 41 bdK z.dA z.dc z.ds,Big hwF z.ds,OS 37 (intK .u64) z.bA z.bc z.bs,Blk b11_4 (.cells (pdC (clrP (y.es.getD i pdK.d))).toArray 36 (0,0)),Big pdF (y.es.drop (i+1)),pdF (clrP (y.es.getD i pdK.d)),Blk b13 (.cells #[.int .i64 (((i:Int)* 7+modM arr 9)%200),.int .i64 (y.es.getD i pdK.d).par,.slice (y.es.getD i pdK.d).r0.A (y.es.getD i pdK.d).r0.ys.length (y.es.getD i pdK.d).r0.c,.slice none 0 0,.slice none 0 0,.slice none 0 0,.int .i64 (y.es.getD i pdK.d).d0,.int .i64 (y.es.getD i pdK.d).d1,.int .i64 (y.es.getD i pdK.d).d2,.int .i64 (y.es.getD i pdK.d).d3,.int .i64 (y.es.getD i pdK.d).d4,.int .i64 (y.es.getD i pdK.d).d5,.int .i64 (y.es.getD i pdK.d).wd,.int .i64 (y.es.getD i pdK.d).ws,.int .i64 (y.es.getD i pdK.d).par,.slice q.1.A q.1.ys.length q.1.c,.int .u64 ((raw.getD i bdK.d).il.dly%12),.string (bs [])] 41 (0,0)),OS 3 (intK .i64) q.1.A q.1.c q.1.ys]) ?_ ?_
 refine J1 ?_
 refine KV.heap (fun w h=>show Hp _ _ [_,_,_,_,_,_,_,_,_,_,_,_] _ from h.nilOS (e:=3) (K:=intK .i64)) ?_
 refine J5 ?_
 refine E12 ?_
 refine CV.loop2 (fun(k:Nat) (su:Hd)=>(k≤6∧k≤(raw.getD i bdK.d).il.sup.ys.length)∧su.ys.length≤k∧SupO su.ys i (y.es.getD i pdK.d).par) (fun(k:Nat) (su:Hd)=>6-k) (fun(k:Nat) (su:Hd)=>[(0,.slice A raw.length c),(1,.slice B drs.length d),(3,.int .i64 arr),(8,.pointer (some ⟨b0_0,0,none⟩)),(9,.pointer (some ⟨b1_3,0,none⟩)),(10,.slice y.A y.es.length y.c),(12,.int .i64 i),(13,.pointer (some ⟨b11_4,0,none⟩)),(14,.pointer (some ⟨b13,0,none⟩)),(15,.int .i64 k)]) (fun(k:Nat) (su:Hd)=>Hp I w [Blk b0_0 (.cells #[.slice none 0 0,.slice none 0 0,.slice none 0 0] 29 (0,0)),OS 183 railK rA rc (someM rails),Blk b1_3 (.cells #[.slice z.dA z.ds.length z.dc,.slice rA (someM rails).length rc,.slice z.bA z.bs.length z.bc] 29 (0,0)),OS 36 pdK y.A y.c y.es,OS 41 bdK z.dA z.dc z.ds,Big hwF z.ds,OS 37 (intK .u64) z.bA z.bc z.bs,Blk b11_4 (.cells (pdC (clrP (y.es.getD i pdK.d))).toArray 36 (0,0)),Big pdF (y.es.drop (i+1)),pdF (clrP (y.es.getD i pdK.d)),Blk b13 (.cells #[.int .i64 (((i:Int)* 7+modM arr 9)%200),.int .i64 (y.es.getD i pdK.d).par,.slice (y.es.getD i pdK.d).r0.A (y.es.getD i pdK.d).r0.ys.length (y.es.getD i pdK.d).r0.c,.slice none 0 0,.slice none 0 0,.slice none 0 0,.int .i64 (y.es.getD i pdK.d).d0,.int .i64 (y.es.getD i pdK.d).d1,.int .i64 (y.es.getD i pdK.d).d2,.int .i64 (y.es.getD i pdK.d).d3,.int .i64 (y.es.getD i pdK.d).d4,.int .i64 (y.es.getD i pdK.d).d5,.int .i64 (y.es.getD i pdK.d).wd,.int .i64 (y.es.getD i pdK.d).ws,.int .i64 (y.es.getD i pdK.d).par,.slice su.A su.ys.length su.c,.int .u64 ((raw.getD i bdK.d).il.dly%12),.string (bs [])] 41 (0,0)),OS 3 (intK .i64) su.A su.c su.ys]) (0) (hd0) ⟨⟨Nat.zero_le _,Nat.zero_le _⟩,Nat.zero_le _,SupO.nil _ _⟩ (sb rfl) (fun _ h=>h) ?_
 intro k su hinv2
 refine J9 ?_
 refine Jr (Tc rfl (fun w h=>RS.cellAt (h.rs hr (fun _=>hI _)) i 15 (by omega) rfl rfl)) ?_
 refine J1 ?_
 refine Jlt rfl rfl (fun cc4=>?_) (fun cc4=>?_)
 refine J2 ?_
 refine Jlt rfl rfl (fun cc5=>?_) (fun cc5=>?_)
 refine J3 ?_
 refine Jgt rfl rfl (fun cc6=>?_) (fun cc6=>?_)
 refine J15 ?_
 refine Jr (Tc rfl (fun w h=>RS.cellAt (h.rs hr (fun _=>hI _)) i 15 (by omega) rfl rfl)) ?_
 refine J1 ?_
 refine Jr (Ti (fun w h=>(h.rs (hb i (by omega)).2.2.1 (fun _=>hI _))) rfl rfl (by first|rfl|omega) _ rfl (by omega)) ?_
 refine Jr (Tc rfl (fun w h=>(h.rs (hb i (by omega)).2.2.1 (fun _=>hI _)).cell0 (by omega) rfl)) ?_
 refine J1 ?_
 refine RV.op (Yp rfl (Rl.mod_fn _ i (by omega) (by omega)) ?_)
 refine E12 ?_
 refine J15 ?_
 refine J4 ?_
 refine E12 ?_
 refine CV.loop2 (fun(j:Nat) (f:Bool)=>j≤su.ys.length∧(f=true→(¬(modM ((raw.getD i bdK.d).il.sup.ys.getD k (intK .i64).d) i)=(y.es.getD i pdK.d).par)∧ ∀l,l<j→su.ys.getD l (intK .i64).d≠(modM ((raw.getD i bdK.d).il.sup.ys.getD k (intK .i64).d) i))) (fun(j:Nat) (f:Bool)=>su.ys.length-j) (fun(j:Nat) (f:Bool)=>[(0,.slice A raw.length c),(1,.slice B drs.length d),(3,.int .i64 arr),(8,.pointer (some ⟨b0_0,0,none⟩)),(9,.pointer (some ⟨b1_3,0,none⟩)),(10,.slice y.A y.es.length y.c),(12,.int .i64 i),(13,.pointer (some ⟨b11_4,0,none⟩)),(14,.pointer (some ⟨b13,0,none⟩)),(15,.int .i64 k),(16,.int .i64 (modM ((raw.getD i bdK.d).il.sup.ys.getD k (intK .i64).d) i)),(17,.bool f),(18,.int .i64 j)]) (fun(j:Nat) (f:Bool)=>Hp I w [Blk b0_0 (.cells #[.slice none 0 0,.slice none 0 0,.slice none 0 0] 29 (0,0)),OS 183 railK rA rc (someM rails),Blk b1_3 (.cells #[.slice z.dA z.ds.length z.dc,.slice rA (someM rails).length rc,.slice z.bA z.bs.length z.bc] 29 (0,0)),OS 36 pdK y.A y.c y.es,OS 41 bdK z.dA z.dc z.ds,Big hwF z.ds,OS 37 (intK .u64) z.bA z.bc z.bs,Blk b11_4 (.cells (pdC (clrP (y.es.getD i pdK.d))).toArray 36 (0,0)),Big pdF (y.es.drop (i+1)),pdF (clrP (y.es.getD i pdK.d)),Blk b13 (.cells #[.int .i64 (((i:Int)* 7+modM arr 9)%200),.int .i64 (y.es.getD i pdK.d).par,.slice (y.es.getD i pdK.d).r0.A (y.es.getD i pdK.d).r0.ys.length (y.es.getD i pdK.d).r0.c,.slice none 0 0,.slice none 0 0,.slice none 0 0,.int .i64 (y.es.getD i pdK.d).d0,.int .i64 (y.es.getD i pdK.d).d1,.int .i64 (y.es.getD i pdK.d).d2,.int .i64 (y.es.getD i pdK.d).d3,.int .i64 (y.es.getD i pdK.d).d4,.int .i64 (y.es.getD i pdK.d).d5,.int .i64 (y.es.getD i pdK.d).wd,.int .i64 (y.es.getD i pdK.d).ws,.int .i64 (y.es.getD i pdK.d).par,.slice su.A su.ys.length su.c,.int .u64 ((raw.getD i bdK.d).il.dly%12),.string (bs [])] 41 (0,0)),OS 3 (intK .i64) su.A su.c su.ys]) (0) (decide (¬(modM ((raw.getD i bdK.d).il.sup.ys.getD k (intK .i64).d) i)=(y.es.getD i pdK.d).par)) ⟨Nat.zero_le _,fun h=>⟨of_decide_eq_true h,fun _ h=>by omega⟩⟩ (sb rfl) (fun _ h=>h) ?_
 intro j f hinv3
 refine J8 ?_
 refine Jlt rfl rfl (fun cc7=>?_) (fun cc7=>?_)
 refine J10 ?_
 refine KV.cases 122 rfl (fun cc8=>?_) (fun cc8=>?_)
 have hf:=cc8
 refine J7 ?_
 refine Jne rfl rfl (fun hnq=>?_) (fun hnq=>?_)
 refine J11 ?_
 refine E12 ?_
 exact KV.loop2 (x:=j) (y:=f) (j+1) (true) ⟨by omega,fun _=>⟨(hinv3.2 hf).1,vd_step (ds:=raw) (P:=fun l=>su.ys.getD l (intK .i64).d≠(modM ((raw.getD i bdK.d).il.sup.ys.getD k (intK .i64).d) i)) (hinv3.2 hf).2 hnq⟩⟩ (by omega) (sb rfl) (fun _ h=>h)
 refine J11 ?_
 refine E12 ?_
 exact KV.loop2 (x:=j) (y:=f) (j+1) (false) ⟨by omega,fun h=>absurd h Bool.false_ne_true⟩ (by omega) (sb rfl) (fun _ h=>h)
 have hf:=cc8
 refine J15 ?_
 refine J4 ?_
 refine E12 ?_
 exact KV.loop2 (x:=j) (y:=f) (j+1) (false) ⟨by omega,fun h=>absurd h Bool.false_ne_true⟩ (by omega) (sb rfl) (fun _ h=>h)
 refine J13 ?_
 refine KV.cases 132 rfl (fun cc9=>?_) (fun cc9=>?_)
 obtain rfl:j=su.ys.length:=by omega
 have hfr:=hinv3.2 cc9
 refine J6 ?_
 refine RV.op (OV.buildSlice (K:=(intK .i64)) ([(modM ((raw.getD i bdK.d).il.sup.ys.getD k (intK .i64).d) i)]) rfl (Bs32_1_0 _) rfl rfl (by omega) gno rfl (fun b24_4=>?_))
 refine E13 ?_
 refine RV.op (Ye 11 rfl rfl rfl rfl rfl (fun w h=>h.os 12 rfl) (by simp only[List.length_cons,List.length_nil];omega) (fun A7 c7=>?_))
 refine E13 ?_
 refine J2 ?_
 refine Zw 10 [_] #[_,_,_,_,_,_,_,_,_,_,_,_,_,_,_,_,_,_] ?_
 refine E13 ?_
 refine J9 ?_
 refine E12 ?_
 exact KV.loop2 (x:=k) (y:=su) (k+1) (⟨A7,c7,su.ys++[(modM ((raw.getD i bdK.d).il.sup.ys.getD k (intK .i64).d) i)]⟩) ⟨⟨by omega,by omega⟩,by rw[List.length_append,List.length_singleton];omega,hinv2.2.2.snoc (modM_lt _ (by omega)) hfr.1 hfr.2⟩ (by omega) (sb rfl) (fun _ h=>h)
 refine J10 ?_
 refine E12 ?_
 exact KV.loop2 (x:=k) (y:=su) (k+1) (su) ⟨⟨by omega,by omega⟩,by omega,hinv2.2.2⟩ (by omega) (sb rfl) (fun _ h=>h)
 refine J9 ?_
 refine E12 ?_
 exact KV.join (⟨su,hinv2.2.2,by omega⟩) (sb rfl) (fun _ h=>h)
 refine J13 ?_
 refine E12 ?_
 exact KV.join (⟨su,hinv2.2.2,by omega⟩) (sb rfl) (fun _ h=>h)
 refine J15 ?_
 refine J1 ?_
 refine E12 ?_
 exact KV.join (⟨su,hinv2.2.2,by omega⟩) (sb rfl) (fun _ h=>h)
 intro q
 refine J2 ?_
 refine Jr (Step.build rfl (Bd66_)) ?_
 refine RV.op (Yc [] (F:=[_,_,_,_,_,_,_,_,_,_,_,_]) rfl rfl (fun w h=>text_fn ⟨[],none,0,[],none,0,[]⟩ ⟨.inl rfl,.inl rfl,fun i hi=>absurd hi (Nat.not_lt_zero _)⟩ (Nat.zero_le _) (fun t ht=>(List.not_mem_nil ht).elim)) (fun v L' hp=>?_))
 obtain⟨rfl,rfl⟩:=hp
 refine E12 ?_
 refine J1 ?_
 refine Zw 10 [_] #[_,_,_,_,_,_,_,_,_,_,_,_,_,_,_,_,_,_] ?_
 refine E12 ?_
 refine J2 ?_
 refine CV.join (α:=Unit) (fun _=>[(0,.slice A raw.length c),(1,.slice B drs.length d),(3,.int .i64 arr),(8,.pointer (some ⟨b0_0,0,none⟩)),(9,.pointer (some ⟨b1_3,0,none⟩)),(10,.slice y.A y.es.length y.c),(12,.int .i64 i),(14,.pointer (some ⟨b13,0,none⟩))]) (fun _=>Hp I w [Blk b0_0 (.cells #[.slice none 0 0,.slice none 0 0,.slice none 0 0] 29 (0,0)),OS 183 railK rA rc (someM rails),Blk b1_3 (.cells #[.slice z.dA z.ds.length z.dc,.slice rA (someM rails).length rc,.slice z.bA z.bs.length z.bc] 29 (0,0)),OS 36 pdK y.A y.c y.es,OS 41 bdK z.dA z.dc z.ds,Big hwF z.ds,OS 37 (intK .u64) z.bA z.bc z.bs,Blk b11_4 (.cells (pdC (clrP (y.es.getD i pdK.d))).toArray 36 (0,0)),Big pdF (y.es.drop (i+1)),pdF (clrP (y.es.getD i pdK.d)),Blk b13 (.cells #[.int .i64 (((i:Int)* 7+modM arr 9)%200),.int .i64 (y.es.getD i pdK.d).par,.slice (y.es.getD i pdK.d).r0.A (y.es.getD i pdK.d).r0.ys.length (y.es.getD i pdK.d).r0.c,.slice none 0 0,.slice none 0 0,.slice none 0 0,.int .i64 (y.es.getD i pdK.d).d0,.int .i64 (y.es.getD i pdK.d).d1,.int .i64 (y.es.getD i pdK.d).d2,.int .i64 (y.es.getD i pdK.d).d3,.int .i64 (y.es.getD i pdK.d).d4,.int .i64 (y.es.getD i pdK.d).d5,.int .i64 (y.es.getD i pdK.d).wd,.int .i64 (y.es.getD i pdK.d).ws,.int .i64 (y.es.getD i pdK.d).par,.slice q.1.A q.1.ys.length q.1.c,.int .u64 ((raw.getD i bdK.d).il.dly%12),.string (bs (drvM drs i))] 41 (0,0)),OS 3 (intK .i64) q.1.A q.1.c q.1.ys]) ?_ ?_
 refine J5 ?_
 refine Jlt rfl rfl (fun hid=>?_) (fun hid=>?_)
 refine J8 ?_
 refine RV.op (Yc [] (F:=[_,_,_,_,_,_,_,_,_,_,_,_]) rfl rfl (fun w h=>text_fn (drs.getD i dhK.d) ((hdr i (by omega)).1.keep h hI) (hdr i (by omega)).2.1 (hdr i (by omega)).2.2) (fun v L' hp=>?_))
 obtain⟨rfl,rfl⟩:=hp
 refine E12 ?_
 refine J1 ?_
 refine Zw 10 [_] #[_,_,_,_,_,_,_,_,_,_,_,_,_,_,_,_,_,_] ?_
 refine E12 ?_
 refine J2 ?_
 refine E12 ?_
 exact KV.join () (sb rfl) (fun _ h=>by first|(rw[show drvM drs i=txtM (drs.getD i dhK.d).d from if_pos (by omega)];exact h)|(rw[show drvM drs i=txtM ⟨[],[],[]⟩ from if_neg (by omega)];exact h))
 refine J5 ?_
 refine E12 ?_
 exact KV.join () (sb rfl) (fun _ h=>by first|(rw[show drvM drs i=txtM (drs.getD i dhK.d).d from if_pos (by omega)];exact h)|(rw[show drvM drs i=txtM ⟨[],[],[]⟩ from if_neg (by omega)];exact h))
 intro _
 refine J5 ?_
 refine RV.op (OV.buildSlice (K:=bdK) ([(⟨((i:Int)* 7+modM arr 9)%200,clrP (y.es.getD i pdK.d),⟨(y.es.getD i pdK.d).par,q.1,(raw.getD i bdK.d).il.dly%12⟩,drvM drs i⟩:BDv)]) rfl (Bs22_1_0 _ _ _ _ _ _ _ _ _ _ _ _ _ _ _ _ _ _) rfl rfl (by omega) gno rfl (fun b28_3=>?_))
 refine E13 ?_
 refine RV.op (Ye 4 rfl rfl rfl rfl rfl (fun w h=>h.os 12 rfl) (by simp only[List.length_cons,List.length_nil];omega) (fun dA2 dc2=>?_))
 refine E13 ?_
 refine J1 ?_
 refine Zw 2 [_] #[_,_,_] ?_
 refine E13 ?_
 refine J2 ?_
 refine Ac (Hp I w [Blk b1_3 (.cells #[.slice dA2 (z.ds++[(⟨((i:Int)* 7+modM arr 9)%200,clrP (y.es.getD i pdK.d),⟨(y.es.getD i pdK.d).par,q.1,(raw.getD i bdK.d).il.dly%12⟩,drvM drs i⟩:BDv)]).length dc2,.slice rA (someM rails).length rc,.slice z.bA z.bs.length z.bc] 29 (0,0))]) 7 9 ?_
 refine Cw 0 ?_
 refine Cw 1 ?_
 refine Cw 2 ?_
 refine Cw 3 ?_
 refine Q1 4 ?_
 refine Yc [] (F:=[_,_,_,_,_,_,_,_,_,_,_,_,_]) rfl rfl (fun w h=>place_fn i (by omega) arr) (fun v L' hp=>?_)
 obtain⟨rfl,rfl⟩:=hp
 refine E13 ?_
 refine Cj ?_
 refine Q1 5 ?_
 refine OV.buildSlice (K:=(intK .u64)) ([plcM i arr]) rfl (Bs25_1_0 _) rfl rfl (by omega) gno rfl (fun b29_5=>?_)
 refine E14 ?_
 refine Cj ?_
 refine Q1 6 ?_
 refine Ye 6 rfl rfl rfl rfl rfl (fun w h=>h.os 13 rfl) (by simp only[List.length_cons,List.length_nil];omega) (fun bA2 bc2=>?_)
 refine E14 ?_
 refine Cj ?_
 refine Q1 7 ?_
 refine OV.step gno (Tf rfl) rfl ?_
 refine Cm ?_
 refine Q1 8 ?_
 refine Yw 2 [_] #[_,_,_] rfl rfl rfl rfl rfl ?_
 refine E14 ?_
 refine K10 [0,0,0,0,4,0,1,0,1,2] rfl ?_
 refine KV.heap (fun w h=>show Hp _ _ [_,_,_,_,_,_,_,_] _ from hwSnoc (X:=[_,_,_,_,_,_,_]) (⟨((i:Int)* 7+modM arr 9)%200,clrP (y.es.getD i pdK.d),⟨(y.es.getD i pdK.d).par,q.1,(raw.getD i bdK.d).il.dly%12⟩,drvM drs i⟩:BDv) h) ?_
 refine Cm ?_
 refine Cd ?_
 refine J8 ?_
 refine K8 [0,0,0,0,0,0,1,0] rfl ?_
 exact KV.loop2 (x:=i) (y:=z) (i+1) (⟨dA2,dc2,z.ds++[(⟨((i:Int)* 7+modM arr 9)%200,clrP (y.es.getD i pdK.d),⟨(y.es.getD i pdK.d).par,q.1,(raw.getD i bdK.d).il.dly%12⟩,drvM drs i⟩:BDv)],bA2,bc2,z.bs++[plcM i arr]⟩) ⟨⟨by omega,by rw[List.length_append,List.length_singleton];omega,by rw[List.length_append,List.length_singleton];omega⟩,gen_step hinv ⟨rfl,(hye i (by omega)).1.clr,(hye i (by omega)).2.clr,rfl,rfl,rfl,rfl,⟨Int.emod_nonneg _ (by decide),Int.emod_lt_of_pos _ (by decide)⟩,q.2.2,q.2.1,rfl⟩ rfl⟩ (by omega) (sb rfl) (fun _ h=>h)
 refine J11 ?_
 refine Zw 0 [_,_,_] #[_,_,_] ?_
 refine E8 ?_
 refine J3 ?_
 refine K5 [0,4,4,0,3] rfl ?_
 exact KV.retC1 [_,_,_] rfl rfl Tryz.underlying29 rfl I29.h rfl (fun w h=>h.cells 0 rfl) _ (fun _ h=>h.sel [1,1,1,1] rfl) ⟨z,rA,rc,rfl,rfl,⟨by omega,by omega,by omega⟩,fun j hj=>hinv.2 j (by omega)⟩
end Go.Proofs.YtkofjhglgoojiaaGreatDoor.Pw
