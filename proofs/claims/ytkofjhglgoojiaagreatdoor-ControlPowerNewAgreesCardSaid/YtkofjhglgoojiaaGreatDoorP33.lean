/-
  Joined.
-/
import Derived.Test.YtkofjhglgoojiaaGreatDoorP32
set_option linter.unusedSimpArgs false
set_option linter.unusedVariables false
namespace Go.Proofs.YtkofjhglgoojiaaGreatDoor.Pw
set_option maxRecDepth 100000
set_option maxHeartbeats 20000000
open Go.Tk Go.Sv Go.Rails Go.Dg Go.Pw
attribute [local irreducible] KV SV OV Step Code.wp wpList Exit.then Exit.inBlock Blk OS Big Bun
theorem newPower_fn {A B C:Option Addr} {n c m d q e:Nat} {ds:List BDv} {rs:List Rail} {bs:List Int} {w:World} (hr:RS w bdK A ds) (hn:n=ds.length) (hl:ds.length≤1000000) (hr2:RS w railK B rs) (hm:m=rs.length) (hl2:rs.length≤1000000) (hr3:RS w (intK .u64) C bs) (hq:q=bs.length) (hl3:bs.length≤1000000) (hb: ∀i,i<ds.length→(ds.getD i bdK.d).inn w) (hE:Dv.EvR w) (bb:Nat):Fx Tryz.prog 29 [.slice A n c,.slice B m d,.slice C q e,.pointer (some ⟨bb,0,none⟩)] w [] Dv.at4 (fun v L=>(PwOk ds rs bs→ ∃p:CP,v= .tuple #[.pointer (some ⟨p.b,0,none⟩),.bool true]∧p.fresh ds rs bs bb∧L=cpL p)∧(¬PwOk ds rs bs→v= .tuple #[.pointer none,.bool false]∧L=[])):=by
 subst hn
 subst hm
 subst hq
 refine Fb ?_
 intro I hro hI
 refine J11 ?_
 refine Jgt rfl rfl (fun hfar=>?_) (fun hfar=>?_)
 refine J15 ?_
 refine J8 ?_
 refine E0 ?_
 exact Rc rfl rfl rfl ⟨fun hk=>absurd hk (fun hk=>by first|(have:=hk.n;have:=hk.nb;omega)|exact haln hk.aln),fun _=>⟨rfl,rfl⟩⟩
 refine J5 ?_
 refine Jne rfl rfl (fun hnb=>?_) (fun hnb=>?_)
 refine J15 ?_
 refine J2 ?_
 refine E0 ?_
 exact Rc rfl rfl rfl ⟨fun hk=>absurd hk (fun hk=>by first|(have:=hk.n;have:=hk.nb;omega)|exact haln hk.aln),fun _=>⟨rfl,rfl⟩⟩
 refine J3 ?_
 refine RV.op (Yc [] (F:=[]) rfl rfl (fun w h=>aln_fn (h.rs hr3 (fun _=>hI _)) hl3 rfl) (fun v L' hp=>?_))
 obtain⟨rfl,rfl⟩:=hp
 by_cases haln:alnP bs
 rw[decide_eq_true haln]
 refine J10 ?_
 refine Jr (Step.build rfl (Bd113_3 _)) ?_
 refine RV.op (Yb #[_,_,_,_,_] rfl rfl (fun b3_2=>?_))
 refine J15 ?_
 refine RV.op (OV.makeMap0 (κ:=Int) (ν:=Bool) (Value.int .i64) Value.bool gno rfl (fun mb=>?_))
 refine J5 ?_
 refine KV.heap (fun w h=>(Hp.nilBig (F:=unF) (h.nilOS (e:=116) (K:=unK))).nilOS (e:=36) (K:=pdK) |>.nilOS (e:=39) (K:=idK)) ?_
 refine J7 ?_
 refine E6 ?_
 refine CV.loop2 (fun(i:Nat) (z:PG)=>(i≤ds.length∧z.us.length=i)∧(∀j,j<i→unOk (ds.getD j bdK.d)∧(z.us.getD j un0).of (ds.getD j bdK.d) (bs.getD j (intK .u64).d))∧((ds.take i).map (·.fn)).Nodup) (fun(i:Nat) (z:PG)=>ds.length-i) (fun(i:Nat) (z:PG)=>[(0,.slice A ds.length c),(1,.slice B rs.length d),(2,.slice C bs.length e),(10,.pointer (some ⟨b3_2,0,none⟩)),(11,.slice z.pA ((ds.take i).map (·.pw)).length z.pc),(12,.slice z.iA ((ds.take i).map (·.il)).length z.ic),(13,.map (some mb)),(38,.slice A ds.length c),(39,.int .i64 ds.length),(40,.int .i64 i)]) (fun(i:Nat) (z:PG)=>Hp I w [Blk b3_2 (.cells #[.slice z.uA z.us.length z.uc,.pointer none,.pointer none,.pointer (some ⟨bb,0,none⟩),.slice none 0 0] 113 (0,0)),OM mb (Value.int .i64) Value.bool (((ds.take i).map (·.fn)).map fun y=>(y,true)),OS 116 unK z.uA z.uc z.us,Big unF z.us,OS 36 pdK z.pA z.pc ((ds.take i).map (·.pw)),OS 39 idK z.iA z.ic ((ds.take i).map (·.il))]) (0) (⟨[],none,0,none,0,none,0⟩) ⟨⟨Nat.zero_le _,rfl⟩,fun _ h=>by omega,List.nodup_nil⟩ (sb rfl) (fun _ h=>h) ?_
 intro i z hinv
 have hbl:bs.length=ds.length:=by omega
 refine J2 ?_
 refine Jlt rfl rfl (fun cc1=>?_) (fun cc1=>?_)
 refine J13 ?_
 refine RV.op (OV.alloc #[.int .i64 0,.int .i64 0,.slice none 0 0,.slice none 0 0,.slice none 0 0,.slice none 0 0,.int .i64 0,.int .i64 0,.int .i64 0,.int .i64 0,.int .i64 0,.int .i64 0,.int .i64 0,.int .i64 0,.int .i64 0,.slice none 0 0,.int .u64 0,.string (Sv.bs [])] I41.h rfl gno rfl (fun b9_3=>?_))
 refine J1 ?_
 refine Zw 6 [_,_,_,_,_,_,_,_,_,_,_,_,_,_,_,_,_,_] #[_,_,_,_,_,_,_,_,_,_,_,_,_,_,_,_,_,_] ?_
 refine J3 ?_
 refine An (Hp I w [Blk b9_3 (.cells (bdC (ds.getD i bdK.d)).toArray 41 (0,0))]) 12 ?_
 refine W 0 ?_
 refine W 1 ?_
 refine W 2 ?_
 refine W 3 ?_
 refine W 4 ?_
 refine V2 5 9 ?_ ?_
 refine OV.call [] (F:=[_,_,_,_,_,_,_]) C59.f C59.b C59.n rfl rfl (fun w h=>newUnit_fn (ds.getD i bdK.d) (bs.getD i (intK .u64).d) (fun k hk=>h.rs ((hb i (by omega)).1 k hk) (fun _=>hI _)) (hb i (by omega)).2.1 (hb i (by omega)).2.2.2 (Dv.EvR.keep h hE (hro 4 rfl))) (fun b hb=>Dv.roAt4 hE hro b hb) gno rfl (fun v L' hp=>?_)
 by_cases hok:unOk (ds.getD i bdK.d)
 obtain⟨u,rfl,hu,rfl⟩:=hp.1 hok
 refine Wn ?_
 refine W 6 ?_
 refine W 7 ?_
 refine W 8 ?_
 refine V1 9 ?_
 refine Ya (fun b10_9=>?_)
 refine Wn ?_
 refine V1 10 ?_
 refine Yw 8 [_,_,_,_,_,_,_,_,_,_,_,_,_,_,_,_,_,_,_,_] #[_,_,_,_,_,_,_,_,_,_,_,_,_,_,_,_,_,_,_,_] rfl rfl rfl rfl rfl ?_
 refine Wn ?_
 refine W 11 ?_
 refine Vd ?_
 refine J10 ?_
 refine Jr (Step.lookup 1 (vf:=Value.bool) (zv:=false) u.own Tryz.underlying197 (KeyT.int Tryz.underlying3) I4.h rfl rfl rfl) ?_
 rw[mget_di]
 by_cases hin:u.own∈(ds.take i).map (·.fn)
 rw[decide_eq_true hin]
 refine J15 ?_
 refine J2 ?_
 refine E0 ?_
 exact Rc rfl rfl rfl ⟨fun hk=>absurd hk (fun hk=>by first|exact hok (hk.un i (by omega))|(rw[hu.1.1] at hin;exact np_no (by omega) hin hk.ow)),fun _=>⟨rfl,rfl⟩⟩
 rw[decide_eq_false hin]
 refine J11 ?_
 refine RV.op (OV.mapInsert 1 u.own true Tryz.underlying197 (KeyT.int Tryz.underlying3) rfl rfl rfl rfl (by rw[mget_ti,if_neg hin]) gno ?_)
 refine J3 ?_
 refine Ac (Hp I w [Blk b10_9 (.cells (unC u).toArray 116 (0,0)),Blk b3_2 (.cells #[.slice z.uA z.us.length z.uc,.pointer none,.pointer none,.pointer (some ⟨bb,0,none⟩),.slice none 0 0] 113 (0,0))]) 8 11 ?_
 refine Cw 0 ?_
 refine Cw 1 ?_
 refine Cw 2 ?_
 refine Cw 3 ?_
 refine Cw 4 ?_
 refine Cw 5 ?_
 refine Q1 6 ?_
 refine OV.buildSlice (K:=unK) ([u]) rfl (Bs109_1_0 _ _ _ _ _ _ _ _ _ _ _ _ _ _ _ _ _ _ _ _) rfl rfl (by omega) gno rfl (fun b14_6=>?_)
 refine Cj ?_
 refine Q1 7 ?_
 refine Ye 2 rfl rfl rfl rfl rfl (fun w h=>h.os 9 rfl) (by have:=hinv.1.2;simp only[List.length_cons,List.length_nil];omega) (fun uA2 uc2=>?_)
 refine Cj ?_
 refine Q1 8 ?_
 refine OV.step gno (Tq rfl) rfl ?_
 refine Cm ?_
 refine Q1 9 ?_
 refine OV.step gno (Tf rfl) rfl ?_
 refine Cm ?_
 refine Q1 10 ?_
 refine Yw 0 [_] #[_,_,_,_,_] rfl rfl rfl rfl rfl ?_
 refine E8 ?_
 refine KV.heap (fun w h=>Hp.bigSnoc (L:=[_,_,_,_,_,_,_]) (F:=unF) (h':=u) (k:=3) h rfl) ?_
 refine Cm ?_
 refine Cd ?_
 refine J5 ?_
 refine Jr (Tw rfl (fun w h=>h.cellsO 6 1 (pdC (ds.getD i bdK.d).pw) rfl rfl)) ?_
 refine RV.op (OV.buildSlice (K:=pdK) ([(ds.getD i bdK.d).pw]) rfl (Bs97_1_0 _ _ _ _ _ _ _ _ _ _ _ _ _) rfl rfl (by omega) gno rfl (fun b15_3=>?_))
 refine RV.op (Ye 4 rfl rfl rfl rfl rfl (fun w h=>h.os 7 rfl) (by simp only[List.length_map,List.length_take,List.length_cons,List.length_nil];omega) (fun pA2 pc2=>?_))
 refine J6 ?_
 refine Jr (Tw rfl (fun w h=>h.cellsO 6 14 (idK.f (ds.getD i bdK.d).il) rfl rfl)) ?_
 refine RV.op (OV.buildSlice (K:=idK) ([(ds.getD i bdK.d).il]) rfl (Bs131_1_0 _ _ _) rfl rfl (by omega) gno rfl (fun b16_3=>?_))
 refine RV.op (Ye 5 rfl rfl rfl rfl rfl (fun w h=>h.os 8 rfl) (by simp only[List.length_map,List.length_take,List.length_cons,List.length_nil];omega) (fun iA2 ic2=>?_))
 refine J9 ?_
 refine E6 ?_
 exact KV.loop2 (x:=i) (y:=z) (i+1) (⟨z.us++[u],uA2,uc2,pA2,pc2,iA2,ic2⟩) (np_step hinv (by omega) hok hu hin) (by omega) ⟨rfl,rfl,rfl,rfl,(congrArg (fun l=>some (Value.slice pA2 (List.length l) pc2)) (tk_snoc (·.pw) ds bdK.d (by omega)).symm),(congrArg (fun l=>some (Value.slice iA2 (List.length l) ic2)) (tk_snoc (·.il) ds bdK.d (by omega)).symm),rfl,rfl,rfl,rfl,trivial⟩ (fun _ h=>np_heap hu (by omega) h)
 obtain⟨rfl,rfl⟩:=hp.2 hok
 simp only[List.append_nil]
 refine Wn ?_
 refine W 6 ?_
 refine W 7 ?_
 refine W 8 ?_
 refine V1 9 ?_
 refine Ya (fun b10_9=>?_)
 refine Wn ?_
 refine V1 10 ?_
 refine Yw 7 [_,_,_,_,_,_,_,_,_,_,_,_,_,_,_,_,_,_,_,_] #[_,_,_,_,_,_,_,_,_,_,_,_,_,_,_,_,_,_,_,_] rfl rfl rfl rfl rfl ?_
 refine Wn ?_
 refine W 11 ?_
 refine Vd ?_
 refine J15 ?_
 refine J13 ?_
 refine E0 ?_
 exact Rc rfl rfl rfl ⟨fun hk=>absurd hk (fun hk=>by first|exact hok (hk.un i (by omega))|(rw[hu.1.1] at hin;exact np_no (by omega) hin hk.ow)),fun _=>⟨rfl,rfl⟩⟩
 refine Ya (fun b10_9=>?_)
 refine Wn ?_
 refine V1 5 ?_
 refine OV.call [] (F:=[_,_,_,_,_,_,_,_]) C59.f C59.b C59.n rfl rfl (fun w h=>newUnit_fn (ds.getD i bdK.d) (bs.getD i (intK .u64).d) (fun k hk=>h.rs ((hb i (by omega)).1 k hk) (fun _=>hI _)) (hb i (by omega)).2.1 (hb i (by omega)).2.2.2 (Dv.EvR.keep h hE (hro 4 rfl))) (fun b hb=>Dv.roAt4 hE hro b hb) gno rfl (fun v L' hp=>?_)
 by_cases hok:unOk (ds.getD i bdK.d)
 obtain⟨u,rfl,hu,rfl⟩:=hp.1 hok
 refine Wn ?_
 refine W 6 ?_
 refine W 7 ?_
 refine W 8 ?_
 refine V1 10 ?_
 refine Yw 7 [_,_,_,_,_,_,_,_,_,_,_,_,_,_,_,_,_,_,_,_] #[_,_,_,_,_,_,_,_,_,_,_,_,_,_,_,_,_,_,_,_] rfl rfl rfl rfl rfl ?_
 refine Wn ?_
 refine W 11 ?_
 refine Vd ?_
 refine J10 ?_
 refine Jr (Step.lookup 1 (vf:=Value.bool) (zv:=false) u.own Tryz.underlying197 (KeyT.int Tryz.underlying3) I4.h rfl rfl rfl) ?_
 rw[mget_di]
 by_cases hin:u.own∈(ds.take i).map (·.fn)
 rw[decide_eq_true hin]
 refine J15 ?_
 refine J2 ?_
 refine E0 ?_
 exact Rc rfl rfl rfl ⟨fun hk=>absurd hk (fun hk=>by first|exact hok (hk.un i (by omega))|(rw[hu.1.1] at hin;exact np_no (by omega) hin hk.ow)),fun _=>⟨rfl,rfl⟩⟩
 rw[decide_eq_false hin]
 refine J11 ?_
 refine RV.op (OV.mapInsert 1 u.own true Tryz.underlying197 (KeyT.int Tryz.underlying3) rfl rfl rfl rfl (by rw[mget_ti,if_neg hin]) gno ?_)
 refine J3 ?_
 refine Ac (Hp I w [Blk b10_9 (.cells (unC u).toArray 116 (0,0)),Blk b3_2 (.cells #[.slice z.uA z.us.length z.uc,.pointer none,.pointer none,.pointer (some ⟨bb,0,none⟩),.slice none 0 0] 113 (0,0))]) 8 11 ?_
 refine Cw 0 ?_
 refine Cw 1 ?_
 refine Cw 2 ?_
 refine Cw 3 ?_
 refine Cw 4 ?_
 refine Cw 5 ?_
 refine Q1 6 ?_
 refine OV.buildSlice (K:=unK) ([u]) rfl (Bs109_1_0 _ _ _ _ _ _ _ _ _ _ _ _ _ _ _ _ _ _ _ _) rfl rfl (by omega) gno rfl (fun b14_6=>?_)
 refine Cj ?_
 refine Q1 7 ?_
 refine Ye 2 rfl rfl rfl rfl rfl (fun w h=>h.os 9 rfl) (by have:=hinv.1.2;simp only[List.length_cons,List.length_nil];omega) (fun uA2 uc2=>?_)
 refine Cj ?_
 refine Q1 8 ?_
 refine OV.step gno (Tq rfl) rfl ?_
 refine Cm ?_
 refine Q1 9 ?_
 refine OV.step gno (Tf rfl) rfl ?_
 refine Cm ?_
 refine Q1 10 ?_
 refine Yw 0 [_] #[_,_,_,_,_] rfl rfl rfl rfl rfl ?_
 refine K8 [0,0,0,0,0,0,0,1] rfl ?_
 refine KV.heap (fun w h=>Hp.bigSnoc (L:=[_,_,_,_,_,_,_]) (F:=unF) (h':=u) (k:=3) h rfl) ?_
 refine Cm ?_
 refine Cd ?_
 refine J5 ?_
 refine Jr (Tw rfl (fun w h=>h.cellsO 6 1 (pdC (ds.getD i bdK.d).pw) rfl rfl)) ?_
 refine RV.op (OV.buildSlice (K:=pdK) ([(ds.getD i bdK.d).pw]) rfl (Bs97_1_0 _ _ _ _ _ _ _ _ _ _ _ _ _) rfl rfl (by omega) gno rfl (fun b15_3=>?_))
 refine RV.op (Ye 4 rfl rfl rfl rfl rfl (fun w h=>h.os 7 rfl) (by simp only[List.length_map,List.length_take,List.length_cons,List.length_nil];omega) (fun pA2 pc2=>?_))
 refine J6 ?_
 refine Jr (Tw rfl (fun w h=>h.cellsO 6 14 (idK.f (ds.getD i bdK.d).il) rfl rfl)) ?_
 refine RV.op (OV.buildSlice (K:=idK) ([(ds.getD i bdK.d).il]) rfl (Bs131_1_0 _ _ _) rfl rfl (by omega) gno rfl (fun b16_3=>?_))
 refine RV.op (Ye 5 rfl rfl rfl rfl rfl (fun w h=>h.os 8 rfl) (by simp only[List.length_map,List.length_take,List.length_cons,List.length_nil];omega) (fun iA2 ic2=>?_))
 refine J9 ?_
 refine E6 ?_
 exact KV.loop2 (x:=i) (y:=z) (i+1) (⟨z.us++[u],uA2,uc2,pA2,pc2,iA2,ic2⟩) (np_step hinv (by omega) hok hu hin) (by omega) ⟨rfl,rfl,rfl,rfl,(congrArg (fun l=>some (Value.slice pA2 (List.length l) pc2)) (tk_snoc (·.pw) ds bdK.d (by omega)).symm),(congrArg (fun l=>some (Value.slice iA2 (List.length l) ic2)) (tk_snoc (·.il) ds bdK.d (by omega)).symm),rfl,rfl,rfl,rfl,trivial⟩ (fun _ h=>np_heap hu (by omega) h)
 obtain⟨rfl,rfl⟩:=hp.2 hok
 simp only[List.append_nil]
 refine Wn ?_
 refine W 6 ?_
 refine W 7 ?_
 refine W 8 ?_
 refine V1 10 ?_
 refine Yw 7 [_,_,_,_,_,_,_,_,_,_,_,_,_,_,_,_,_,_,_,_] #[_,_,_,_,_,_,_,_,_,_,_,_,_,_,_,_,_,_,_,_] rfl rfl rfl rfl rfl ?_
 refine Wn ?_
 refine W 11 ?_
 refine Vd ?_
 refine J15 ?_
 refine J13 ?_
 refine E0 ?_
 exact Rc rfl rfl rfl ⟨fun hk=>absurd hk (fun hk=>by first|exact hok (hk.un i (by omega))|(rw[hu.1.1] at hin;exact np_no (by omega) hin hk.ow)),fun _=>⟨rfl,rfl⟩⟩
 refine J10 ?_
 obtain rfl:i=ds.length:=by omega
 simp only[List.take_length]
 refine J10 ?_
 refine RV.op (Yc [] (F:=[_,_,_,_,_,_]) rfl rfl (fun w h=>devNew_fn (h.os 4 rfl) (by rw[List.length_map];exact hl) rfl (fun i hi k hk=>by rw[List.length_map] at hi;rw[pw_at ds hi];exact h.rs ((hb i hi).1 k hk) (fun _=>hI _)) (fun i hi=>by rw[List.length_map] at hi;rw[pw_at ds hi];exact(hb i hi).2.1) (h.rs hr2 (fun _=>hI _)) rfl hl2) (fun v L' hp=>?_))
 by_cases hnt:newT (pwL ds) rs=0
 obtain⟨t,rfl,ht,rfl⟩:=hp.1 hnt
 refine J3 ?_
 refine Jp rfl ?_
 refine J1 ?_
 refine Zw 0 [_] #[_,_,_,_,_] ?_
 refine J7 ?_
 first|rw[decide_eq_true (show ¬newT (pwL ds) rs=0 from hnt)]|skip
 refine J10 ?_
 refine RV.op (Yc [] (F:=[_,_,_,_,_,_,_,_,_,_,_,_,_,_]) rfl rfl (fun w h=>pmNew_fn (h.os 5 rfl) rfl (by rw[List.length_map];exact hl) (fun i hi=>by rw[List.length_map] at hi;rw[il_at ds hi];exact h.rs (hb i hi).2.2.1 (fun _=>hI _))) (fun v L' hp=>?_))
 by_cases hng:newI (ilL ds)=0
 obtain⟨g,rfl,hg,rfl⟩:=hp.1 hng
 have hlz:=newI_zero hng
 refine J3 ?_
 refine Jp rfl ?_
 refine J1 ?_
 refine Zw 0 [_] #[_,_,_,_,_] ?_
 refine J7 ?_
 first|rw[decide_eq_true (show ¬newI (ilL ds)=0 from hng)]|skip
 refine J11 ?_
 refine RV.op (Yc [] (F:=[_,_,_,_,_,_,_,_,_,_,_,_,_,_,_,_,_,_]) rfl rfl (fun w h=>linksOf_fn (h.rs hr (fun _=>hI _)) rfl (by omega) (fun i hi=>h.rs (hb i hi).2.2.1 (fun _=>hI _)) (fun i hi=>by have:=hlz.2 i hi;unfold badI at this;omega)) (fun v L' hp=>?_))
 obtain⟨kA,kc,rfl,rfl⟩:=hp
 refine RV.op (Yc [] (F:=[_,_,_,_,_,_,_,_,_,_,_,_,_,_,_,_,_,_,_]) rfl rfl (fun w h=>order_fn ds.length (h.os 18 rfl) (lk_len (by omega) hlz.2)) (fun v L' hp=>?_))
 obtain⟨oA_,oc,rfl,rfl⟩:=hp.1 hlz.1
 refine J3 ?_
 refine Jp rfl ?_
 refine J1 ?_
 refine Zw 0 [_] #[_,_,_,_,_] ?_
 refine J13 ?_
 refine K16 [0,1,1,16,3,3,3,3,3,3,3,3,3,3,3,3] rfl ?_
 have h9:PwOk ds rs bs:=⟨by omega,by omega,haln,fun i hi=>(hinv.2.1 i hi).1,np_nd hinv.2.2,hnt,hng⟩
 exact Rc rfl rfl rfl ⟨fun _=>⟨⟨b3_2,z.uA,z.uc,z.us,t,g,bb,oA_,oc,seqM ds.length (lkI (ilL ds) ds.length)⟩,rfl,⟨rfl,hinv.1.2,fun i hi=>(hinv.2.1 i hi).2,ht.1,by rw[ht.2.1,List.length_map],ht.2.2.1,by rw[ht.2.2.2.1,List.length_map],ht.2.2.2.2,hg,rfl⟩,by simp only[cpL,chk_len hlz.1];rfl⟩,fun hk=>absurd h9 hk⟩
 obtain⟨rfl,rfl⟩:=hp.2 hng
 simp only[List.append_nil]
 refine J3 ?_
 refine Jp rfl ?_
 refine J1 ?_
 refine Zw 0 [_] #[_,_,_,_,_] ?_
 refine J7 ?_
 first|rw[decide_eq_true (show ¬newI (ilL ds)=0 from hng)]|skip
 refine J11 ?_
 refine E0 ?_
 exact Rc rfl rfl rfl ⟨fun hk=>absurd hk (fun hk=>hng hk.mg),fun _=>⟨rfl,rfl⟩⟩
 obtain⟨rfl,rfl⟩:=hp.2 hnt
 simp only[List.append_nil]
 refine J3 ?_
 refine Jp rfl ?_
 refine J1 ?_
 refine Zw 0 [_] #[_,_,_,_,_] ?_
 refine J7 ?_
 first|rw[decide_eq_true (show ¬newT (pwL ds) rs=0 from hnt)]|skip
 refine J11 ?_
 refine E0 ?_
 exact Rc rfl rfl rfl ⟨fun hk=>absurd hk (fun hk=>hnt hk.tr),fun _=>⟨rfl,rfl⟩⟩
 rw[decide_eq_false haln]
 refine J13 ?_
 refine E0 ?_
 exact Rc rfl rfl rfl ⟨fun hk=>absurd hk (fun hk=>by first|(have:=hk.n;have:=hk.nb;omega)|exact haln hk.aln),fun _=>⟨rfl,rfl⟩⟩
end Go.Proofs.YtkofjhglgoojiaaGreatDoor.Pw
