/-
  Joined.
-/
import Derived.Test.YtkofjhglgoojiaaGreatDoorP43
set_option linter.unusedSimpArgs false
set_option linter.unusedVariables false
namespace Go.Proofs.YtkofjhglgoojiaaGreatDoor.Pw
set_option maxRecDepth 100000
set_option maxHeartbeats 20000000
open Go.Tk Go.Sv Go.Rails Go.Dg Go.Pw
attribute [local irreducible] KV SV OV Step Code.wp wpList Exit.then Exit.inBlock Blk OS Big Bun
theorem NewPowerR_fn {A B C:Option Addr} {n c m d q e:Nat} {ds:List BDv} {rs:List Rail} {bs:List Int} {w:World} (hr:RS w bdK A ds) (hn:n=ds.length) (hl:ds.length≤1000000) (hr2:RS w railK B rs) (hm:m=rs.length) (hl2:rs.length≤1000000) (hr3:RS w (intK .u64) C bs) (hq:q=bs.length) (hl3:bs.length≤1000000) (hb: ∀i,i<ds.length→(ds.getD i bdK.d).inn w) (bb:Nat) (r:Ios.RB) (hk:r.ok) (hu: ∀i,i<bs.length→Ios.isU (bs.getD i (intK .u64).d)):Fx Tryz.prog 10 [.slice A n c,.slice B m d,.slice C q e,.pointer (some ⟨bb,0,none⟩)] w [Bun (Ios.rbL bb r)] (roP A B C ds rs bs) (fun v L=>(PwOk ds rs bs→ ∃er r2,EndR (psM ds bs) r ds.length er r2∧((er=0∧ ∃p:RP,v= .tuple #[.pointer (some ⟨p.b,0,none⟩),.int .i64 0]∧p.fresh ds rs bs A c bb∧L=rpL p++[Bun (Ios.rbL bb r2)])∨(er≠0∧v= .tuple #[.pointer none,.int .i64 er]∧L=[Bun (Ios.rbL bb r2)])))∧(¬PwOk ds rs bs→v= .tuple #[.pointer none,.int .i64 1]∧L=[Bun (Ios.rbL bb r)])):=by
 subst hn
 subst hm
 subst hq
 refine Fb ?_
 intro I hro hI
 refine J12 ?_
 refine RV.op (Yc [] (F:=[_]) rfl rfl (fun w h=>valid44_fn (h.rs hr (fun hn=>hro _ (.inl ⟨hn,rfl⟩))) rfl hl (h.rs hr2 (fun hn=>hro _ (.inr (.inl ⟨hn,rfl⟩)))) rfl hl2 (h.rs hr3 (fun hn=>hro _ (.inr (.inr (.inl ⟨hn,rfl⟩))))) rfl hl3 (fun i hi=>⟨fun k hk=>h.rs ((hb i hi).1 k hk) (fun hn=>hro _ (.inr (.inr (.inr ⟨i,hi,.inl ⟨k,hk,hn,rfl⟩⟩)))),(hb i hi).2.1,h.rs (hb i hi).2.2.1 (fun hn=>hro _ (.inr (.inr (.inr ⟨i,hi,.inr ⟨hn,rfl⟩⟩)))),(hb i hi).2.2.2⟩)) (fun v L' hp=>?_))
 obtain⟨b9,rfl,hb9,rfl⟩:=hp
 simp only[List.append_nil]
 cases b9
 have hok: ¬PwOk ds rs bs:=fun k=>absurd (hb9.2 k) (by decide)
 refine J12 ?_
 refine E1 ?_
 exact Rc rfl rfl rfl ⟨fun hk=>absurd hk hok,fun _=>⟨rfl,rfl⟩⟩
 have hok:=hb9.1 rfl
 refine J14 ?_
 refine An (Hp I w []) 15 ?_
 refine AV.cutAt (α:=G5) #[true,true,true,true,true,true,true,true,true,true,true,true,false,false,false] 3 (fun y=>[(0,.slice A ds.length c),(1,.slice B rs.length d),(2,.slice C bs.length e),(3,.pointer (some ⟨bb,0,none⟩)),(10,.int .i64 ds.length),(29,.slice A ds.length c),(30,.slice C bs.length e),(32,.pointer (some ⟨bb,0,none⟩)),(33,.int .i64 ds.length),(35,.int .i64 ds.length),(37,.int .i64 ds.length),(39,.int .i64 ds.length),(31,.slice y.a bs.length y.n),(34,.slice y.b ds.length ds.length),(36,.slice y.c ds.length ds.length),(38,.slice y.d ds.length ds.length),(40,.slice y.e ds.length ds.length)]) (fun y=>Hp I w [Bun (Ios.rbL bb r),OS 37 (intK .u64) y.a y.n bs,OS 4 bolK y.b ds.length (List.replicate ds.length false),OS 63 shK y.c ds.length (List.replicate ds.length sh0),OS 4 bolK y.d ds.length (List.replicate ds.length false),OS 3 (intK .i64) y.e ds.length (List.replicate ds.length 0)]) (fun y=>?_) (fun h2_5_7_9_11=>?_)
 refine Wt 12 rfl (Step.build rfl (Bd130_0_1_2_6_7_8_9 _ _ _ _ _ _ _ _ _ _ _ _ _ _ _ _ _ _ _)) ?_
 refine V1 13 ?_
 refine Yb #[_,_,_,_,_,_,_,_,_,_,_] rfl rfl (fun b4_13=>?_)
 refine E7 ?_
 refine Wn ?_
 refine W 14 ?_
 refine Vd ?_
 refine J13 ?_
 refine KV.heap (fun w h=>show Hp _ _ [_,_,_,_,_,_,_,_,_,_,_,_] _ from((((Hp.nilBig (F:=riF) (h.nilOS (e:=134) (K:=riK))).nilOS (e:=138) (K:=linkK))).nilOS (e:=36) (K:=pdK)).nilOS (e:=39) (K:=idK)) ?_
 refine J5 ?_
 refine K12 [6,1,1,1,1,1,1,1,1,1,1,0] rfl ?_
 refine CV.loop3 (fun(i:Nat) (z:RG) (r2:Ios.RB)=>(i≤ds.length∧z.rs.length=i)∧OkR (psM ds bs) r i r2∧(∀j,j<i→(z.rs.getD j ri0).of (ds.getD j bdK.d))∧z.ws.length=ds.length∧ ∀j,j<i→z.ws.getD j 0=4) (fun(i:Nat) (z:RG) (r2:Ios.RB)=>ds.length-i) (fun(i:Nat) (z:RG) (r2:Ios.RB)=>[(0,.slice A ds.length c),(1,.slice B rs.length d),(2,.slice C bs.length e),(3,.pointer (some ⟨bb,0,none⟩)),(10,.int .i64 ds.length),(11,.pointer (some ⟨b4_13,0,none⟩)),(12,.slice z.pA ((ds.take i).map (·.pw)).length z.pc),(13,.slice z.iA ((ds.take i).map (·.il)).length z.ic),(14,.int .i64 i)]) (fun(i:Nat) (z:RG) (r2:Ios.RB)=>Hp I w ([Blk b4_13 (.cells #[.slice A ds.length c,.slice y.a bs.length y.n,.pointer (some ⟨bb,0,none⟩),.pointer none,.pointer none,.slice z.qA z.rs.length z.qc,.slice y.b ds.length ds.length,.slice y.c ds.length ds.length,.slice y.d ds.length ds.length,.slice y.e ds.length ds.length,.slice z.lA (lkI (ilL ds) i).length z.lc] 130 (0,0)),OS 37 (intK .u64) y.a y.n bs,OS 4 bolK y.b ds.length (List.replicate ds.length false),OS 63 shK y.c ds.length (List.replicate ds.length sh0),OS 4 bolK y.d ds.length (List.replicate ds.length false),OS 3 (intK .i64) y.e ds.length (z.ws),OS 134 riK z.qA z.qc (z.rs),Big riF (z.rs),OS 138 linkK z.lA z.lc (lkI (ilL ds) i),OS 36 pdK z.pA z.pc ((ds.take i).map (·.pw)),OS 39 idK z.iA z.ic ((ds.take i).map (·.il)),Bun (Ios.rbL bb r2)])) (0) (⟨none,0,none,0,none,0,[],none,0,List.replicate ds.length 0⟩) (r) ⟨⟨Nat.zero_le _,rfl⟩,rfl,fun _ h=>by omega,List.length_replicate,fun _ h=>by omega⟩ (sb rfl) (fun _ h=>h) ?_
 intro i z r2 hinv
 have hll:=lkI_len (ids:=ilL ds) (m:=i) (fun j hj=>by have hbd:=hok.lk.2 j (by omega);rw[il_at ds (by omega)];unfold badI at hbd;omega)
 have hn16:=hok.n
 refine J5 ?_
 refine Jlt rfl rfl (fun cc1=>?_) (fun cc1=>?_)
 refine J8 ?_
 have hi9:i<ds.length:=by omega
 have hbl:=hok.nb
 have hk2:=hinv.2.1.ok hk (fun j hj=>hu j (by omega))
 refine J3 ?_
 refine Jr (Ti (fun w h=>h.rs hr (fun hn=>hro _ (.inl ⟨hn,rfl⟩))) rfl rfl (by first|rfl|omega) _ rfl (by omega)) ?_
 refine Jr (Tw rfl (fun w h=>(h.rs hr (fun hn=>hro _ (.inl ⟨hn,rfl⟩))).cells (by omega))) ?_
 refine RV.op (OV.alloc #[.int .i64 0,.int .i64 0,.slice none 0 0,.slice none 0 0,.slice none 0 0,.slice none 0 0,.int .i64 0,.int .i64 0,.int .i64 0,.int .i64 0,.int .i64 0,.int .i64 0,.int .i64 0,.int .i64 0,.int .i64 0,.slice none 0 0,.int .u64 0,.string (Sv.bs [])] I41.h rfl gno rfl (fun b10_4=>?_))
 refine E13 ?_
 refine Zw 12 [_,_,_,_,_,_,_,_,_,_,_,_,_,_,_,_,_,_] #[_,_,_,_,_,_,_,_,_,_,_,_,_,_,_,_,_,_] ?_
 refine E13 ?_
 refine J4 ?_
 refine An (Hp I w [Blk b10_4 (.cells (bdC (ds.getD i bdK.d)).toArray 41 (0,0))]) 10 ?_
 refine W 0 ?_
 refine W 1 ?_
 refine W 2 ?_
 refine Wt 3 rfl (Ti (fun w h=>h.rs hr3 (fun hn=>hro _ (.inr (.inr (.inl ⟨hn,rfl⟩))))) rfl rfl (by first|rfl|omega) _ rfl (by omega)) ?_
 refine Wt 4 rfl (Tc rfl (fun w h=>(h.rs hr3 (fun hn=>hro _ (.inr (.inr (.inl ⟨hn,rfl⟩))))).cell0 (by omega) rfl)) ?_
 refine W 6 ?_
 refine W 7 ?_
 refine V1 5 ?_
 refine Yc [] (F:=[_,_,_,_,_,_,_,_,_,_,_,_,_]) rfl rfl (fun w h=>regsR_fn (bs.getD i (intK .u64).d)) (fun v L' hp=>?_)
 obtain⟨rfl,rfl⟩:=hp
 refine E13 ?_
 refine Wn ?_
 refine V1 8 ?_
 refine Yc [11] (F:=[_,_,_,_,_,_,_,_,_,_,_,_]) rfl rfl (fun w h=>(mapR_fn bb r2 hk2 0 (bs.getD i (intK .u64).d) 256 (ds.getD i bdK.d).fn (hu i (by omega))).bun) (fun v L' hp=>?_)
 obtain⟨_,⟨er,r3,rfl,rfl,hmo⟩,rfl⟩:=hp
 refine E13 ?_
 refine Wn ?_
 refine W 9 ?_
 refine Vd ?_
 refine J4 ?_
 refine Jne rfl rfl (fun he=>?_) (fun he=>?_)
 refine J15 ?_
 refine J2 ?_
 refine K1 [12] rfl ?_
 exact Rc rfl rfl rfl ⟨fun _=>⟨er,r3,.inr ⟨he,i,r2,by omega,hinv.2.1,hmo⟩,.inr ⟨he,rfl,rfl⟩⟩,fun h0=>absurd hok h0⟩
 have he0:=Decidable.not_not.1 he
 have hk3:=mapR_ok hk2 (hu i (by omega)) hmo
 refine J10 ?_
 refine RV.op (Yc [12] (F:=[_,_,_,_,_,_,_,_,_,_,_,_]) rfl rfl (fun w h=>(enR_fn bb r3 hk3 (ds.getD i bdK.d).fn false).bun) (fun v L' hp=>?_))
 obtain⟨_,⟨e2,r4,rfl,rfl,heo⟩,rfl⟩:=hp
 refine E13 ?_
 refine J6 ?_
 refine RV.op (Yc [] (F:=[_,_,_,_,_,_,_,_,_,_,_,_,_]) rfl rfl (fun w h=>Dv.rparse_fn (ds.getD i bdK.d).drv (hb i (by omega)).2.2.2) (fun v L' hp=>?_))
 obtain⟨dv,rfl,hdv,rfl⟩:=hp
 unfold Go.Drv.dL
 refine E16 ?_
 refine J3 ?_
 refine RV.op (OV.alloc #[.string (Sv.bs []),.slice none 0 0,.slice none 0 0] I66.h rfl gno rfl (fun b15_6=>?_))
 refine E17 ?_
 refine Zw 16 [_,_,_] #[_,_,_] ?_
 refine E17 ?_
 refine J6 ?_
 refine RV.op (Yc [] (F:=[_,_,_,_,_,_,_,_,_,_,_,_,_,_,_,_,_]) rfl rfl (fun w h=>rnew_fn dv (Dv.DR.ofHp (k1:=13) (k2:=14) (k3:=15) h rfl rfl rfl rfl)) (fun v L' hp=>?_))
 have hck9:Go.Drv.chkM dv.d=0:=by rw[hdv];exact parse_chk (hok.un i (by omega)).2.2.1
 refine Or.elim hp ?_ (fun h9=>absurd hck9 h9.1)
 rintro⟨_,q,rfl,rfl⟩
 refine E18 ?_
 refine J8 ?_
 have hwl:=hinv.2.2.2.1
 refine Ac (Hp I w [Blk b4_13 (.cells #[.slice A ds.length c,.slice y.a bs.length y.n,.pointer (some ⟨bb,0,none⟩),.pointer none,.pointer none,.slice z.qA z.rs.length z.qc,.slice y.b ds.length ds.length,.slice y.c ds.length ds.length,.slice y.d ds.length ds.length,.slice y.e ds.length ds.length,.slice z.lA (lkI (ilL ds) i).length z.lc] 130 (0,0))]) 13 18 ?_
 refine Cw 0 ?_
 refine Cw 1 ?_
 refine Cw 2 ?_
 refine Cw 3 ?_
 refine Cw 4 ?_
 refine Uw 5 ?_
 refine Cw 6 ?_
 refine Cw 7 ?_
 refine Cw 8 ?_
 refine Cw 9 ?_
 refine Cw 10 ?_
 refine Q1 11 ?_
 refine OV.buildSlice (K:=riK) ([(⟨q,dv,0,-1,[]⟩:RI)]) rfl (Bs127_1_0 _) rfl rfl (by omega) gno rfl (fun b17_11=>?_)
 refine E19 ?_
 refine Cj ?_
 refine Q1 12 ?_
 refine Ye 6 rfl rfl rfl rfl rfl (fun w h=>h.os 18 rfl) (by have:=hinv.1.2;simp only[List.length_cons,List.length_nil];omega) (fun qA2 qc2=>?_)
 refine E19 ?_
 refine Cj ?_
 refine Q1 13 ?_
 refine OV.step gno (Tq rfl) rfl ?_
 refine Cm ?_
 refine Q1 14 ?_
 refine OV.step gno (Tf rfl) rfl ?_
 refine Cm ?_
 refine Q1 15 ?_
 refine Yw 0 [_] #[_,_,_,_,_,_,_,_,_,_,_] rfl rfl rfl rfl rfl ?_
 refine E19 ?_
 refine Cm ?_
 refine Q1 16 ?_
 refine OV.step gno (Ti (fun w h=>h.os 5 rfl) rfl rfl (by first|rfl|omega) _ rfl (by omega)) rfl ?_
 refine Cm ?_
 refine Q1 17 ?_
 refine Yx 5 (i) (4) (j:=0) [_] rfl rfl rfl rfl rfl (by omega) rfl ?_
 refine E19 ?_
 refine K17 [0,0,0,0,0,0,0,1,1,1,1,1,0,4,0,0,0] rfl ?_
 refine KV.heap (fun w h=>riSnoc (X:=[_,_,_,_,_,_,_,_,_,_,_,_]) (⟨q,dv,0,-1,[]⟩:RI) h) ?_
 refine Cm ?_
 refine Cd ?_
 refine J1 ?_
 refine CV.join (fun(u:P4)=>[(0,.slice A ds.length c),(1,.slice B rs.length d),(2,.slice C bs.length e),(3,.pointer (some ⟨bb,0,none⟩)),(10,.int .i64 ds.length),(11,.pointer (some ⟨b4_13,0,none⟩)),(12,.slice u.pA ((ds.take i).map (·.pw)++[(ds.getD i bdK.d).pw]).length u.pc),(13,.slice u.iA ((ds.take i).map (·.il)++[(ds.getD i bdK.d).il]).length u.ic),(14,.int .i64 i),(15,.pointer (some ⟨b10_4,0,none⟩))]) (fun(u:P4)=>Hp I w [Blk b4_13 (.cells #[.slice A ds.length c,.slice y.a bs.length y.n,.pointer (some ⟨bb,0,none⟩),.pointer none,.pointer none,.slice qA2 (z.rs++[(⟨q,dv,0,-1,[]⟩:RI)]).length qc2,.slice y.b ds.length ds.length,.slice y.c ds.length ds.length,.slice y.d ds.length ds.length,.slice y.e ds.length ds.length,.slice z.lA (lkI (ilL ds) i).length z.lc] 130 (0,0)),OS 37 (intK .u64) y.a y.n bs,OS 4 bolK y.b ds.length (List.replicate ds.length false),OS 63 shK y.c ds.length (List.replicate ds.length sh0),OS 4 bolK y.d ds.length (List.replicate ds.length false),OS 3 (intK .i64) y.e ds.length (z.ws.set i 4),OS 134 riK qA2 qc2 (z.rs++[(⟨q,dv,0,-1,[]⟩:RI)]),Big riF (z.rs++[(⟨q,dv,0,-1,[]⟩:RI)]),OS 138 linkK z.lA z.lc (lkI (ilL ds) i),OS 36 pdK u.pA u.pc ((ds.take i).map (·.pw)++[(ds.getD i bdK.d).pw]),OS 39 idK u.iA u.ic ((ds.take i).map (·.il)++[(ds.getD i bdK.d).il]),Blk b10_4 (.cells (bdC (ds.getD i bdK.d)).toArray 41 (0,0)),Bun (Ios.rbL bb r4)]) ?_ ?_
 refine An (Hp I w [Blk b10_4 (.cells (bdC (ds.getD i bdK.d)).toArray 41 (0,0))]) 12 ?_
 refine W 0 ?_
 refine W 1 ?_
 refine Wt 2 rfl (Tw rfl (fun w h=>h.cellsO 0 1 (pdC (ds.getD i bdK.d).pw) rfl rfl)) ?_
 refine W 5 ?_
 refine W 6 ?_
 refine Wt 7 rfl (Tw rfl (fun w h=>h.cellsO 0 14 (idK.f (ds.getD i bdK.d).il) rfl rfl)) ?_
 refine V2 3 8 ?_ ?_
 refine OV.buildSlice (K:=pdK) ([(ds.getD i bdK.d).pw]) rfl (Bs97_1_0 _ _ _ _ _ _ _ _ _ _ _ _ _) rfl rfl (by omega) gno rfl (fun b18_3=>?_)
 refine E14 ?_
 refine Wn ?_
 refine V2 4 8 ?_ ?_
 refine Ye 8 rfl rfl rfl rfl rfl (fun w h=>h.os 13 rfl) (by simp only[List.length_map,List.length_take,List.length_cons,List.length_nil];omega) (fun pA2 pc2=>?_)
 refine E14 ?_
 refine Wn ?_
 refine V1 8 ?_
 refine OV.buildSlice (K:=idK) ([(ds.getD i bdK.d).il]) rfl (Bs131_1_0 _ _ _) rfl rfl (by omega) gno rfl (fun b18_8=>?_)
 refine E15 ?_
 refine Wn ?_
 refine V1 9 ?_
 refine Ye 9 rfl rfl rfl rfl rfl (fun w h=>h.os 14 rfl) (by simp only[List.length_map,List.length_take,List.length_cons,List.length_nil];omega) (fun iA2 ic2=>?_)
 refine E15 ?_
 refine Wn ?_
 refine W 10 ?_
 refine W 11 ?_
 refine Vd ?_
 refine J1 ?_
 refine K13 [0,0,0,0,0,0,0,5,0,0,0,0,0] rfl ?_
 exact KV.join (⟨pA2,pc2,iA2,ic2⟩) (sb rfl) (fun _ h=>h)
 refine OV.buildSlice (K:=idK) ([(ds.getD i bdK.d).il]) rfl (Bs131_1_0 _ _ _) rfl rfl (by omega) gno rfl (fun b18_8=>?_)
 refine E15 ?_
 refine Wn ?_
 refine V1 4 ?_
 refine Ye 8 rfl rfl rfl rfl rfl (fun w h=>h.os 13 rfl) (by simp only[List.length_map,List.length_take,List.length_cons,List.length_nil];omega) (fun pA2 pc2=>?_)
 refine E15 ?_
 refine Wn ?_
 refine V1 9 ?_
 refine Ye 9 rfl rfl rfl rfl rfl (fun w h=>h.os 14 rfl) (by simp only[List.length_map,List.length_take,List.length_cons,List.length_nil];omega) (fun iA2 ic2=>?_)
 refine E15 ?_
 refine Wn ?_
 refine W 10 ?_
 refine W 11 ?_
 refine Vd ?_
 refine J1 ?_
 refine K13 [0,0,0,0,0,0,0,5,0,0,0,0,0] rfl ?_
 exact KV.join (⟨pA2,pc2,iA2,ic2⟩) (sb rfl) (fun _ h=>h)
 refine OV.buildSlice (K:=idK) ([(ds.getD i bdK.d).il]) rfl (Bs131_1_0 _ _ _) rfl rfl (by omega) gno rfl (fun b18_8=>?_)
 refine E14 ?_
 refine Wn ?_
 refine V1 3 ?_
 refine OV.buildSlice (K:=pdK) ([(ds.getD i bdK.d).pw]) rfl (Bs97_1_0 _ _ _ _ _ _ _ _ _ _ _ _ _) rfl rfl (by omega) gno rfl (fun b18_3=>?_)
 refine E15 ?_
 refine Wn ?_
 refine V1 4 ?_
 refine Ye 8 rfl rfl rfl rfl rfl (fun w h=>h.os 14 rfl) (by simp only[List.length_map,List.length_take,List.length_cons,List.length_nil];omega) (fun pA2 pc2=>?_)
 refine E15 ?_
 refine Wn ?_
 refine V1 9 ?_
 refine Ye 9 rfl rfl rfl rfl rfl (fun w h=>h.os 13 rfl) (by simp only[List.length_map,List.length_take,List.length_cons,List.length_nil];omega) (fun iA2 ic2=>?_)
 refine E15 ?_
 refine Wn ?_
 refine W 10 ?_
 refine W 11 ?_
 refine Vd ?_
 refine J1 ?_
 refine K13 [0,0,0,0,0,0,0,5,0,0,0,0,0] rfl ?_
 exact KV.join (⟨pA2,pc2,iA2,ic2⟩) (sb rfl) (fun _ h=>h)
 intro u
 refine CV.join (fun(x:LG)=>[(0,.slice A ds.length c),(1,.slice B rs.length d),(2,.slice C bs.length e),(3,.pointer (some ⟨bb,0,none⟩)),(10,.int .i64 ds.length),(11,.pointer (some ⟨b4_13,0,none⟩)),(12,.slice u.pA ((ds.take i).map (·.pw)++[(ds.getD i bdK.d).pw]).length u.pc),(13,.slice u.iA ((ds.take i).map (·.il)++[(ds.getD i bdK.d).il]).length u.ic),(14,.int .i64 i),(15,.pointer (some ⟨b10_4,0,none⟩))]) (fun(x:LG)=>Hp I w [Blk b4_13 (.cells #[.slice A ds.length c,.slice y.a bs.length y.n,.pointer (some ⟨bb,0,none⟩),.pointer none,.pointer none,.slice qA2 (z.rs++[(⟨q,dv,0,-1,[]⟩:RI)]).length qc2,.slice y.b ds.length ds.length,.slice y.c ds.length ds.length,.slice y.d ds.length ds.length,.slice y.e ds.length ds.length,.slice x.A (lkI (ilL ds) i++lk1 i (ds.getD i bdK.d).il 0).length x.c] 130 (0,0)),OS 37 (intK .u64) y.a y.n bs,OS 4 bolK y.b ds.length (List.replicate ds.length false),OS 63 shK y.c ds.length (List.replicate ds.length sh0),OS 4 bolK y.d ds.length (List.replicate ds.length false),OS 3 (intK .i64) y.e ds.length (z.ws.set i 4),OS 134 riK qA2 qc2 (z.rs++[(⟨q,dv,0,-1,[]⟩:RI)]),Big riF (z.rs++[(⟨q,dv,0,-1,[]⟩:RI)]),OS 138 linkK x.A x.c (lkI (ilL ds) i++lk1 i (ds.getD i bdK.d).il 0),OS 36 pdK u.pA u.pc ((ds.take i).map (·.pw)++[(ds.getD i bdK.d).pw]),OS 39 idK u.iA u.ic ((ds.take i).map (·.il)++[(ds.getD i bdK.d).il]),Blk b10_4 (.cells (bdC (ds.getD i bdK.d)).toArray 41 (0,0)),Bun (Ios.rbL bb r4)]) ?_ ?_
 refine J5 ?_
 refine Jge rfl rfl (fun hp=>?_) (fun hp=>?_)
 have hlk:lkI (ilL ds) i++[⟨(i:Int),(ds.getD i bdK.d).il.par⟩]=(lkI (ilL ds) i++lk1 i (ds.getD i bdK.d).il 0):=by rw[lk1_pos hp]
 refine J3 ?_
 refine Ac (Hp I w [Blk b10_4 (.cells (bdC (ds.getD i bdK.d)).toArray 41 (0,0)),Blk b4_13 (.cells #[.slice A ds.length c,.slice y.a bs.length y.n,.pointer (some ⟨bb,0,none⟩),.pointer none,.pointer none,.slice qA2 (z.rs++[(⟨q,dv,0,-1,[]⟩:RI)]).length qc2,.slice y.b ds.length ds.length,.slice y.c ds.length ds.length,.slice y.d ds.length ds.length,.slice y.e ds.length ds.length,.slice z.lA (lkI (ilL ds) i).length z.lc] 130 (0,0))]) 12 15 ?_
 refine Cw 0 ?_
 refine Cw 1 ?_
 refine Cw 2 ?_
 refine Cw 3 ?_
 refine Cw 4 ?_
 refine Cw 5 ?_
 refine Cw 6 ?_
 refine Cw 7 ?_
 refine Cw 8 ?_
 refine Ct 9 rfl (Step.build rfl (Bd138_0_1 _ _)) (fun _ h=>h.sel [11,0] rfl) ?_
 refine Q1 10 ?_
 refine OV.buildSlice (K:=linkK) ([⟨_,_⟩]) rfl (Bs128_1_0 _ _) rfl rfl (by omega) gno rfl (fun b20_10=>?_)
 refine E14 ?_
 refine Cj ?_
 refine Q1 11 ?_
 refine Ye 8 rfl rfl rfl rfl rfl (fun w h=>h.os 13 rfl) (by simp only[List.length_cons,List.length_nil];omega) (fun A5 c5=>?_)
 refine E14 ?_
 refine Cj ?_
 refine Q1 12 ?_
 refine OV.step gno (Tq rfl) rfl ?_
 refine Cm ?_
 refine Q1 13 ?_
 refine OV.step gno (Tf rfl) rfl ?_
 refine Cm ?_
 refine Q1 14 ?_
 refine Yw 0 [_] #[_,_,_,_,_,_,_,_,_,_,_] rfl rfl rfl rfl rfl ?_
 refine E14 ?_
 refine Cm ?_
 refine Cd ?_
 refine J1 ?_
 refine E13 ?_
 exact KV.join (⟨A5,c5⟩) (sb rfl) (fun _ h=>by rw[←hlk];exact h)
 have hlk:lkI (ilL ds) i=(lkI (ilL ds) i++lk1 i (ds.getD i bdK.d).il 0):=by rw[lk1_neg hp,List.append_nil]
 refine J5 ?_
 refine E13 ?_
 exact KV.join (⟨z.lA,z.lc⟩) (sb rfl) (fun _ h=>by rw[←hlk];exact h)
 intro x
 refine J6 ?_
 refine E13 ?_
 refine CV.loop2 (fun(k:Nat) (yk:LG)=>k≤(ds.getD i bdK.d).il.sup.ys.length) (fun(k:Nat) (yk:LG)=>(ds.getD i bdK.d).il.sup.ys.length-k) (fun(k:Nat) (yk:LG)=>[(0,.slice A ds.length c),(1,.slice B rs.length d),(2,.slice C bs.length e),(3,.pointer (some ⟨bb,0,none⟩)),(10,.int .i64 ds.length),(11,.pointer (some ⟨b4_13,0,none⟩)),(12,.slice u.pA ((ds.take i).map (·.pw)++[(ds.getD i bdK.d).pw]).length u.pc),(13,.slice u.iA ((ds.take i).map (·.il)++[(ds.getD i bdK.d).il]).length u.ic),(14,.int .i64 i),(15,.pointer (some ⟨b10_4,0,none⟩)),(21,.int .i64 k)]) (fun(k:Nat) (yk:LG)=>Hp I w [Blk b4_13 (.cells #[.slice A ds.length c,.slice y.a bs.length y.n,.pointer (some ⟨bb,0,none⟩),.pointer none,.pointer none,.slice qA2 (z.rs++[(⟨q,dv,0,-1,[]⟩:RI)]).length qc2,.slice y.b ds.length ds.length,.slice y.c ds.length ds.length,.slice y.d ds.length ds.length,.slice y.e ds.length ds.length,.slice yk.A (lkI (ilL ds) i++lk1 i (ds.getD i bdK.d).il k).length yk.c] 130 (0,0)),OS 37 (intK .u64) y.a y.n bs,OS 4 bolK y.b ds.length (List.replicate ds.length false),OS 63 shK y.c ds.length (List.replicate ds.length sh0),OS 4 bolK y.d ds.length (List.replicate ds.length false),OS 3 (intK .i64) y.e ds.length (z.ws.set i 4),OS 134 riK qA2 qc2 (z.rs++[(⟨q,dv,0,-1,[]⟩:RI)]),Big riF (z.rs++[(⟨q,dv,0,-1,[]⟩:RI)]),OS 138 linkK yk.A yk.c (lkI (ilL ds) i++lk1 i (ds.getD i bdK.d).il k),OS 36 pdK u.pA u.pc ((ds.take i).map (·.pw)++[(ds.getD i bdK.d).pw]),OS 39 idK u.iA u.ic ((ds.take i).map (·.il)++[(ds.getD i bdK.d).il]),Blk b10_4 (.cells (bdC (ds.getD i bdK.d)).toArray 41 (0,0)),Bun (Ios.rbL bb r4)]) (0) (x) (Nat.zero_le _) (sb rfl) (fun _ h=>h) ?_
 intro k yk hinv2
 have hbi:=hok.lk.2 i (by omega)
 unfold badI at hbi
 refine J8 ?_
 refine Jlt rfl rfl (fun cc2=>?_) (fun cc2=>?_)
 refine J7 ?_
 refine Ac (Hp I w [Blk b10_4 (.cells (bdC (ds.getD i bdK.d)).toArray 41 (0,0)),Blk b4_13 (.cells #[.slice A ds.length c,.slice y.a bs.length y.n,.pointer (some ⟨bb,0,none⟩),.pointer none,.pointer none,.slice qA2 (z.rs++[(⟨q,dv,0,-1,[]⟩:RI)]).length qc2,.slice y.b ds.length ds.length,.slice y.c ds.length ds.length,.slice y.d ds.length ds.length,.slice y.e ds.length ds.length,.slice yk.A (lkI (ilL ds) i++lk1 i (ds.getD i bdK.d).il k).length yk.c] 130 (0,0))]) 15 18 ?_
 refine Cw 0 ?_
 refine Cw 1 ?_
 refine Cw 2 ?_
 refine Cw 3 ?_
 refine Cw 4 ?_
 refine Cw 5 ?_
 refine Cw 6 ?_
 refine Cw 7 ?_
 refine Cw 8 ?_
 refine Cw 9 ?_
 refine Cv 10 rfl (Ti (fun w h=>(h.rs (hb i (by omega)).2.2.1 (fun hn=>hro _ (.inr (.inr (.inr ⟨i,(by omega),.inr ⟨hn,rfl⟩⟩)))))) rfl rfl (by first|rfl|omega) _ rfl (by omega)) ?_
 refine Cv 11 rfl (Tc rfl (fun w h=>(h.rs (hb i (by omega)).2.2.1 (fun hn=>hro _ (.inr (.inr (.inr ⟨i,(by omega),.inr ⟨hn,rfl⟩⟩))))).cell0 (by omega) rfl)) ?_
 refine Ct 12 rfl (Step.build rfl (Bd138_0_1 _ _)) (fun _ h=>h.sel [11,0] rfl) ?_
 refine Q1 13 ?_
 refine OV.buildSlice (K:=linkK) ([⟨_,_⟩]) rfl (Bs128_1_0 _ _) rfl rfl (by omega) gno rfl (fun b24_13=>?_)
 refine E14 ?_
 refine Cj ?_
 refine Q1 14 ?_
 refine Ye 8 rfl rfl rfl rfl rfl (fun w h=>h.os 13 rfl) (by have:=lk1_len i (ds.getD i bdK.d).il k;simp only[List.length_append,List.length_cons,List.length_nil];omega) (fun A6 c6=>?_)
 refine E14 ?_
 refine Cj ?_
 refine Q1 15 ?_
 refine OV.step gno (Tq rfl) rfl ?_
 refine Cm ?_
 refine Q1 16 ?_
 refine OV.step gno (Tf rfl) rfl ?_
 refine Cm ?_
 refine Q1 17 ?_
 refine Yw 0 [_] #[_,_,_,_,_,_,_,_,_,_,_] rfl rfl rfl rfl rfl ?_
 refine E14 ?_
 refine Cm ?_
 refine Cd ?_
 refine J8 ?_
 refine E13 ?_
 exact KV.loop2 (x:=k) (y:=yk) (k+1) (⟨A6,c6⟩) (by omega) (by omega) (sb rfl) (fun _ h=>by rw[lk1_snoc (by omega),←List.append_assoc];exact h)
 refine J15 ?_
 refine K12 [0,0,0,0,0,0,0,0,0,0,0,1] rfl ?_
 obtain rfl:k=(ds.getD i bdK.d).il.sup.ys.length:=by omega
 exact KV.loop3 (x:=i) (y:=z) (z:=r2) (i+1) (⟨u.pA,u.pc,u.iA,u.ic,qA2,qc2,z.rs++[(⟨q,dv,0,-1,[]⟩:RI)],yk.A,yk.c,z.ws.set i 4⟩) (r4) ⟨⟨by omega,by rw[List.length_append,List.length_singleton,hinv.1.2]⟩,⟨r2,r3,e2,hinv.2.1,(show Ios.MapR r2 0 (bs.getD i (intK .u64).d) 256 (ds.getD i bdK.d).fn 0 r3 from he0▸hmo),heo⟩,snoc_all (P:=fun j x=>x.of (ds.getD j bdK.d)) hinv.1.2 hinv.2.2.1 ⟨hdv,rfl,rfl,rfl⟩,ws_step hinv.2.2.2.1 (by omega) hinv.2.2.2.2⟩ (by omega) ⟨rfl,rfl,rfl,rfl,rfl,rfl,(congrArg (fun l=>some (Value.slice u.pA (List.length l) u.pc)) (tk_snoc (·.pw) ds bdK.d (by omega)).symm),(congrArg (fun l=>some (Value.slice u.iA (List.length l) u.ic)) (tk_snoc (·.il) ds bdK.d (by omega)).symm),rfl,trivial⟩ (fun _ h=>by rw[tk_snoc (·.pw) ds bdK.d (by omega),tk_snoc (·.il) ds bdK.d (by omega),lkI_succ ds (by omega)];exact h)
 refine J9 ?_
 obtain rfl:i=ds.length:=by omega
 simp only[List.take_length]
 refine J4 ?_
 refine RV.op (Yc [] (F:=[_,_,_,_,_,_,_,_,_,_,_,_]) rfl rfl (fun w h=>ref27New_fn (h.os 9 rfl) (by rw[List.length_map];exact hl) rfl (fun i hi k hk=>by rw[List.length_map] at hi;rw[pw_at ds hi];exact h.rs ((hb i hi).1 k hk) (fun hn=>hro _ (.inr (.inr (.inr ⟨i,hi,.inl ⟨k,hk,hn,rfl⟩⟩))))) (fun i hi=>by rw[List.length_map] at hi;rw[pw_at ds hi];exact(hb i hi).2.1) (h.rs hr2 (fun hn=>hro _ (.inr (.inl ⟨hn,rfl⟩)))) rfl hl2) (fun v L' hp=>?_))
 obtain⟨t,rfl,ht,rfl⟩:=hp.1 hok.tr
 refine KV.heap (fun w h=>bunEnd (X:=[_,_,_,_,_,_,_,_,_,_,_,_]) h) ?_
 refine E13 ?_
 refine J3 ?_
 refine Jp rfl ?_
 refine J1 ?_
 refine Zw 0 [_] #[_,_,_,_,_,_,_,_,_,_,_] ?_
 refine E13 ?_
 refine J6 ?_
 refine RV.op (Yc [] (F:=[_,_,_,_,_,_,_,_,_,_,_,_,_]) rfl rfl (fun w h=>ref28New_fn (h.os 10 rfl) rfl (by rw[List.length_map];exact hl) (fun i hi=>by rw[List.length_map] at hi;rw[il_at ds hi];exact h.rs (hb i hi).2.2.1 (fun hn=>hro _ (.inr (.inr (.inr ⟨i,hi,.inr ⟨hn,rfl⟩⟩)))))) (fun v L' hp=>?_))
 obtain⟨g,rfl,hg,rfl⟩:=hp.1 hok.mg
 refine KV.heap (fun w h=>bunEnd (X:=[_,_,_,_,_,_,_,_,_,_,_,_,_]) h) ?_
 refine E14 ?_
 refine J3 ?_
 refine Jp rfl ?_
 refine J1 ?_
 refine Zw 0 [_] #[_,_,_,_,_,_,_,_,_,_,_] ?_
 refine E14 ?_
 refine J10 ?_
 refine K14 [0,7,0,0,0,0,0,0,0,0,0,1,1,0] rfl ?_
 have hta:=ht.1
 have hga:=hg.1
 rw[←hta,←hga]
 exact KV.ret2 rfl rfl rfl _ (fun _ h=>rpClose ⟨b4_13,A,c,ds.length,y.a,y.n,bs,bb,t,g,z.qA,z.qc,z.rs,y.b,ds.length,List.replicate ds.length false,y.c,ds.length,List.replicate ds.length sh0,y.d,ds.length,List.replicate ds.length false,y.e,ds.length,z.ws,z.lA,z.lc,lkI (ilL ds) ds.length,z.pc,pwL ds,z.ic,ilL ds⟩ ds.length rfl h) ⟨fun _=>⟨0,r2,.inl ⟨rfl,hinv.2.1⟩,.inl ⟨rfl,⟨b4_13,A,c,ds.length,y.a,y.n,bs,bb,t,g,z.qA,z.qc,z.rs,y.b,ds.length,List.replicate ds.length false,y.c,ds.length,List.replicate ds.length sh0,y.d,ds.length,List.replicate ds.length false,y.e,ds.length,z.ws,z.lA,z.lc,lkI (ilL ds) ds.length,z.pc,pwL ds,z.ic,ilL ds⟩,rfl,⟨rfl,rfl,rfl,rfl,rfl,by rw[ht.2.1,List.length_map],ht.2.2.2.1,by rw[ht.2.2.2.2.1,List.length_map],ht.2.2.2.2.2,by rw[hg.2.1,List.length_map],by rw[hg.2.2.2.1,List.length_map],by rw[hg.2.2.2.2.1,List.length_map],by rw[hg.2.2.2.2.2.1,List.length_map],by rw[hg.2.2.2.2.2.2.1,List.length_map],hg.2.2.2.2.2.2.2,hinv.1.2,hinv.2.2.1,rfl,rfl,rfl,hinv.2.2.2.1,hinv.2.2.2.2,rfl,rfl,rfl⟩,rfl⟩⟩,fun h0=>absurd hok h0⟩
 refine AV.cutAt (α:=G5) #[true,true,true,true,true,true,true,true,true,true,true,false,false,false,false] 4 (fun y=>[(0,.slice A ds.length c),(1,.slice B rs.length d),(2,.slice C bs.length e),(3,.pointer (some ⟨bb,0,none⟩)),(10,.int .i64 ds.length),(29,.slice A ds.length c),(30,.slice C bs.length e),(32,.pointer (some ⟨bb,0,none⟩)),(33,.int .i64 ds.length),(35,.int .i64 ds.length),(37,.int .i64 ds.length),(39,.int .i64 ds.length),(31,.slice y.a bs.length y.n),(34,.slice y.b ds.length ds.length),(36,.slice y.c ds.length ds.length),(38,.slice y.d ds.length ds.length)]) (fun y=>Hp I w [Bun (Ios.rbL bb r),OS 37 (intK .u64) y.a y.n bs,OS 4 bolK y.b ds.length (List.replicate ds.length false),OS 63 shK y.c ds.length (List.replicate ds.length sh0),OS 4 bolK y.d ds.length (List.replicate ds.length false)]) (fun y=>?_) (fun h2_5_7_9=>?_)
 refine V1 11 ?_
 refine Ym (K:=(intK .i64)) (ds.length) (ds.length) (0) rfl rfl rfl rfl (fun b4_11=>?_)
 refine Wn ?_
 exact Vo (h2_5_7_9_11 {(y:G5) with e:=b4_11}) (sb rfl) (fun _ h=>h.sel [0,0,0,0,0,0] rfl)
 refine AV.cutAt (α:=G5) #[true,true,true,true,true,true,true,true,true,false,true,true,false,false,false] 4 (fun y=>[(0,.slice A ds.length c),(1,.slice B rs.length d),(2,.slice C bs.length e),(3,.pointer (some ⟨bb,0,none⟩)),(10,.int .i64 ds.length),(29,.slice A ds.length c),(30,.slice C bs.length e),(32,.pointer (some ⟨bb,0,none⟩)),(33,.int .i64 ds.length),(35,.int .i64 ds.length),(37,.int .i64 ds.length),(39,.int .i64 ds.length),(31,.slice y.a bs.length y.n),(34,.slice y.b ds.length ds.length),(36,.slice y.c ds.length ds.length),(40,.slice y.e ds.length ds.length)]) (fun y=>Hp I w [Bun (Ios.rbL bb r),OS 37 (intK .u64) y.a y.n bs,OS 4 bolK y.b ds.length (List.replicate ds.length false),OS 63 shK y.c ds.length (List.replicate ds.length sh0),OS 3 (intK .i64) y.e ds.length (List.replicate ds.length 0)]) (fun y=>?_) (fun h2_5_7_11=>?_)
 refine V1 9 ?_
 refine Ym (K:=bolK) (ds.length) (ds.length) (false) rfl rfl rfl rfl (fun b4_9=>?_)
 refine Wn ?_
 exact Vo (h2_5_7_9_11 {(y:G5) with d:=b4_9}) (sb rfl) (fun _ h=>h.sel [0,0,0,0,1,0] rfl)
 refine AV.cutAt (α:=G5) #[true,true,true,true,true,true,true,false,true,true,true,true,false,false,false] 4 (fun y=>[(0,.slice A ds.length c),(1,.slice B rs.length d),(2,.slice C bs.length e),(3,.pointer (some ⟨bb,0,none⟩)),(10,.int .i64 ds.length),(29,.slice A ds.length c),(30,.slice C bs.length e),(32,.pointer (some ⟨bb,0,none⟩)),(33,.int .i64 ds.length),(35,.int .i64 ds.length),(37,.int .i64 ds.length),(39,.int .i64 ds.length),(31,.slice y.a bs.length y.n),(34,.slice y.b ds.length ds.length),(38,.slice y.d ds.length ds.length),(40,.slice y.e ds.length ds.length)]) (fun y=>Hp I w [Bun (Ios.rbL bb r),OS 37 (intK .u64) y.a y.n bs,OS 4 bolK y.b ds.length (List.replicate ds.length false),OS 4 bolK y.d ds.length (List.replicate ds.length false),OS 3 (intK .i64) y.e ds.length (List.replicate ds.length 0)]) (fun y=>?_) (fun h2_5_9_11=>?_)
 refine V1 7 ?_
 refine Ym (K:=shK) (ds.length) (ds.length) (sh0) rfl rfl rfl rfl (fun b4_7=>?_)
 refine Wn ?_
 exact Vo (h2_5_7_9_11 {(y:G5) with c:=b4_7}) (sb rfl) (fun _ h=>h.sel [0,0,0,2,0,0] rfl)
 refine AV.cutAt (α:=G5) #[true,true,true,true,true,false,true,true,true,true,true,true,false,false,false] 4 (fun y=>[(0,.slice A ds.length c),(1,.slice B rs.length d),(2,.slice C bs.length e),(3,.pointer (some ⟨bb,0,none⟩)),(10,.int .i64 ds.length),(29,.slice A ds.length c),(30,.slice C bs.length e),(32,.pointer (some ⟨bb,0,none⟩)),(33,.int .i64 ds.length),(35,.int .i64 ds.length),(37,.int .i64 ds.length),(39,.int .i64 ds.length),(31,.slice y.a bs.length y.n),(36,.slice y.c ds.length ds.length),(38,.slice y.d ds.length ds.length),(40,.slice y.e ds.length ds.length)]) (fun y=>Hp I w [Bun (Ios.rbL bb r),OS 37 (intK .u64) y.a y.n bs,OS 63 shK y.c ds.length (List.replicate ds.length sh0),OS 4 bolK y.d ds.length (List.replicate ds.length false),OS 3 (intK .i64) y.e ds.length (List.replicate ds.length 0)]) (fun y=>?_) (fun h2_7_9_11=>?_)
 refine V1 5 ?_
 refine Ym (K:=bolK) (ds.length) (ds.length) (false) rfl rfl rfl rfl (fun b4_5=>?_)
 refine Wn ?_
 exact Vo (h2_5_7_9_11 {(y:G5) with b:=b4_5}) (sb rfl) (fun _ h=>h.sel [0,0,3,0,0,0] rfl)
 refine AV.cutAt (α:=G5) #[true,true,false,true,true,true,true,true,true,true,true,true,false,false,false] 4 (fun y=>[(0,.slice A ds.length c),(1,.slice B rs.length d),(2,.slice C bs.length e),(3,.pointer (some ⟨bb,0,none⟩)),(10,.int .i64 ds.length),(29,.slice A ds.length c),(30,.slice C bs.length e),(32,.pointer (some ⟨bb,0,none⟩)),(33,.int .i64 ds.length),(35,.int .i64 ds.length),(37,.int .i64 ds.length),(39,.int .i64 ds.length),(34,.slice y.b ds.length ds.length),(36,.slice y.c ds.length ds.length),(38,.slice y.d ds.length ds.length),(40,.slice y.e ds.length ds.length)]) (fun y=>Hp I w [Bun (Ios.rbL bb r),OS 4 bolK y.b ds.length (List.replicate ds.length false),OS 63 shK y.c ds.length (List.replicate ds.length sh0),OS 4 bolK y.d ds.length (List.replicate ds.length false),OS 3 (intK .i64) y.e ds.length (List.replicate ds.length 0)]) (fun y=>?_) (fun h5_7_9_11=>?_)
 refine V1 2 ?_
 refine OV.heap (fun w h=>h.nilOS (e:=37) (K:=intK .u64)) ?_
 refine Ye 5 rfl rfl rfl rfl rfl (fun w h=>h.rs hr3 (fun hn=>hro _ (.inr (.inr (.inl ⟨hn,rfl⟩))))) (by simp only[List.length_nil];omega) (fun b4_2a b4_2c=>?_)
 refine Wn ?_
 exact Vo (h2_5_7_9_11 {(y:G5) with a:=b4_2a,n:=b4_2c}) (sb rfl) (fun _ h=>h.sel [0,4,0,0,0,0] rfl)
 refine AV.cutAt (α:=G5) #[true,true,true,true,true,true,true,true,true,false,true,false,false,false,false] 5 (fun y=>[(0,.slice A ds.length c),(1,.slice B rs.length d),(2,.slice C bs.length e),(3,.pointer (some ⟨bb,0,none⟩)),(10,.int .i64 ds.length),(29,.slice A ds.length c),(30,.slice C bs.length e),(32,.pointer (some ⟨bb,0,none⟩)),(33,.int .i64 ds.length),(35,.int .i64 ds.length),(37,.int .i64 ds.length),(39,.int .i64 ds.length),(31,.slice y.a bs.length y.n),(34,.slice y.b ds.length ds.length),(36,.slice y.c ds.length ds.length)]) (fun y=>Hp I w [Bun (Ios.rbL bb r),OS 37 (intK .u64) y.a y.n bs,OS 4 bolK y.b ds.length (List.replicate ds.length false),OS 63 shK y.c ds.length (List.replicate ds.length sh0)]) (fun y=>?_) (fun h2_5_7=>?_)
 refine V2 9 11 ?_ ?_
 refine Ym (K:=bolK) (ds.length) (ds.length) (false) rfl rfl rfl rfl (fun b4_9=>?_)
 refine Wn ?_
 exact Vo (h2_5_7_9 {(y:G5) with d:=b4_9}) (sb rfl) (fun _ h=>h.sel [0,0,0,0,0] rfl)
 refine Ym (K:=(intK .i64)) (ds.length) (ds.length) (0) rfl rfl rfl rfl (fun b4_11=>?_)
 refine Wn ?_
 exact Vo (h2_5_7_11 {(y:G5) with e:=b4_11}) (sb rfl) (fun _ h=>h.sel [0,0,0,0,0] rfl)
 refine AV.cutAt (α:=G5) #[true,true,true,true,true,true,true,false,true,true,true,false,false,false,false] 5 (fun y=>[(0,.slice A ds.length c),(1,.slice B rs.length d),(2,.slice C bs.length e),(3,.pointer (some ⟨bb,0,none⟩)),(10,.int .i64 ds.length),(29,.slice A ds.length c),(30,.slice C bs.length e),(32,.pointer (some ⟨bb,0,none⟩)),(33,.int .i64 ds.length),(35,.int .i64 ds.length),(37,.int .i64 ds.length),(39,.int .i64 ds.length),(31,.slice y.a bs.length y.n),(34,.slice y.b ds.length ds.length),(38,.slice y.d ds.length ds.length)]) (fun y=>Hp I w [Bun (Ios.rbL bb r),OS 37 (intK .u64) y.a y.n bs,OS 4 bolK y.b ds.length (List.replicate ds.length false),OS 4 bolK y.d ds.length (List.replicate ds.length false)]) (fun y=>?_) (fun h2_5_9=>?_)
 refine V2 7 11 ?_ ?_
 refine Ym (K:=shK) (ds.length) (ds.length) (sh0) rfl rfl rfl rfl (fun b4_7=>?_)
 refine Wn ?_
 exact Vo (h2_5_7_9 {(y:G5) with c:=b4_7}) (sb rfl) (fun _ h=>h.sel [0,0,0,1,0] rfl)
 refine Ym (K:=(intK .i64)) (ds.length) (ds.length) (0) rfl rfl rfl rfl (fun b4_11=>?_)
 refine Wn ?_
 exact Vo (h2_5_9_11 {(y:G5) with e:=b4_11}) (sb rfl) (fun _ h=>h.sel [0,0,0,0,0] rfl)
 refine AV.cutAt (α:=G5) #[true,true,true,true,true,true,true,false,true,false,true,true,false,false,false] 5 (fun y=>[(0,.slice A ds.length c),(1,.slice B rs.length d),(2,.slice C bs.length e),(3,.pointer (some ⟨bb,0,none⟩)),(10,.int .i64 ds.length),(29,.slice A ds.length c),(30,.slice C bs.length e),(32,.pointer (some ⟨bb,0,none⟩)),(33,.int .i64 ds.length),(35,.int .i64 ds.length),(37,.int .i64 ds.length),(39,.int .i64 ds.length),(31,.slice y.a bs.length y.n),(34,.slice y.b ds.length ds.length),(40,.slice y.e ds.length ds.length)]) (fun y=>Hp I w [Bun (Ios.rbL bb r),OS 37 (intK .u64) y.a y.n bs,OS 4 bolK y.b ds.length (List.replicate ds.length false),OS 3 (intK .i64) y.e ds.length (List.replicate ds.length 0)]) (fun y=>?_) (fun h2_5_11=>?_)
 refine V2 7 9 ?_ ?_
 refine Ym (K:=shK) (ds.length) (ds.length) (sh0) rfl rfl rfl rfl (fun b4_7=>?_)
 refine Wn ?_
 exact Vo (h2_5_7_11 {(y:G5) with c:=b4_7}) (sb rfl) (fun _ h=>h.sel [0,0,0,1,0] rfl)
 refine Ym (K:=bolK) (ds.length) (ds.length) (false) rfl rfl rfl rfl (fun b4_9=>?_)
 refine Wn ?_
 exact Vo (h2_5_9_11 {(y:G5) with d:=b4_9}) (sb rfl) (fun _ h=>h.sel [0,0,0,1,0] rfl)
 refine AV.cutAt (α:=G5) #[true,true,true,true,true,false,true,true,true,true,true,false,false,false,false] 5 (fun y=>[(0,.slice A ds.length c),(1,.slice B rs.length d),(2,.slice C bs.length e),(3,.pointer (some ⟨bb,0,none⟩)),(10,.int .i64 ds.length),(29,.slice A ds.length c),(30,.slice C bs.length e),(32,.pointer (some ⟨bb,0,none⟩)),(33,.int .i64 ds.length),(35,.int .i64 ds.length),(37,.int .i64 ds.length),(39,.int .i64 ds.length),(31,.slice y.a bs.length y.n),(36,.slice y.c ds.length ds.length),(38,.slice y.d ds.length ds.length)]) (fun y=>Hp I w [Bun (Ios.rbL bb r),OS 37 (intK .u64) y.a y.n bs,OS 63 shK y.c ds.length (List.replicate ds.length sh0),OS 4 bolK y.d ds.length (List.replicate ds.length false)]) (fun y=>?_) (fun h2_7_9=>?_)
 refine V2 5 11 ?_ ?_
 refine Ym (K:=bolK) (ds.length) (ds.length) (false) rfl rfl rfl rfl (fun b4_5=>?_)
 refine Wn ?_
 exact Vo (h2_5_7_9 {(y:G5) with b:=b4_5}) (sb rfl) (fun _ h=>h.sel [0,0,2,0,0] rfl)
 refine Ym (K:=(intK .i64)) (ds.length) (ds.length) (0) rfl rfl rfl rfl (fun b4_11=>?_)
 refine Wn ?_
 exact Vo (h2_7_9_11 {(y:G5) with e:=b4_11}) (sb rfl) (fun _ h=>h.sel [0,0,0,0,0] rfl)
 refine AV.cutAt (α:=G5) #[true,true,true,true,true,false,true,true,true,false,true,true,false,false,false] 5 (fun y=>[(0,.slice A ds.length c),(1,.slice B rs.length d),(2,.slice C bs.length e),(3,.pointer (some ⟨bb,0,none⟩)),(10,.int .i64 ds.length),(29,.slice A ds.length c),(30,.slice C bs.length e),(32,.pointer (some ⟨bb,0,none⟩)),(33,.int .i64 ds.length),(35,.int .i64 ds.length),(37,.int .i64 ds.length),(39,.int .i64 ds.length),(31,.slice y.a bs.length y.n),(36,.slice y.c ds.length ds.length),(40,.slice y.e ds.length ds.length)]) (fun y=>Hp I w [Bun (Ios.rbL bb r),OS 37 (intK .u64) y.a y.n bs,OS 63 shK y.c ds.length (List.replicate ds.length sh0),OS 3 (intK .i64) y.e ds.length (List.replicate ds.length 0)]) (fun y=>?_) (fun h2_7_11=>?_)
 refine V2 5 9 ?_ ?_
 refine Ym (K:=bolK) (ds.length) (ds.length) (false) rfl rfl rfl rfl (fun b4_5=>?_)
 refine Wn ?_
 exact Vo (h2_5_7_11 {(y:G5) with b:=b4_5}) (sb rfl) (fun _ h=>h.sel [0,0,2,0,0] rfl)
 refine Ym (K:=bolK) (ds.length) (ds.length) (false) rfl rfl rfl rfl (fun b4_9=>?_)
 refine Wn ?_
 exact Vo (h2_7_9_11 {(y:G5) with d:=b4_9}) (sb rfl) (fun _ h=>h.sel [0,0,0,1,0] rfl)
 refine AV.cutAt (α:=G5) #[true,true,true,true,true,false,true,false,true,true,true,true,false,false,false] 5 (fun y=>[(0,.slice A ds.length c),(1,.slice B rs.length d),(2,.slice C bs.length e),(3,.pointer (some ⟨bb,0,none⟩)),(10,.int .i64 ds.length),(29,.slice A ds.length c),(30,.slice C bs.length e),(32,.pointer (some ⟨bb,0,none⟩)),(33,.int .i64 ds.length),(35,.int .i64 ds.length),(37,.int .i64 ds.length),(39,.int .i64 ds.length),(31,.slice y.a bs.length y.n),(38,.slice y.d ds.length ds.length),(40,.slice y.e ds.length ds.length)]) (fun y=>Hp I w [Bun (Ios.rbL bb r),OS 37 (intK .u64) y.a y.n bs,OS 4 bolK y.d ds.length (List.replicate ds.length false),OS 3 (intK .i64) y.e ds.length (List.replicate ds.length 0)]) (fun y=>?_) (fun h2_9_11=>?_)
 refine V2 5 7 ?_ ?_
 refine Ym (K:=bolK) (ds.length) (ds.length) (false) rfl rfl rfl rfl (fun b4_5=>?_)
 refine Wn ?_
 exact Vo (h2_5_9_11 {(y:G5) with b:=b4_5}) (sb rfl) (fun _ h=>h.sel [0,0,2,0,0] rfl)
 refine Ym (K:=shK) (ds.length) (ds.length) (sh0) rfl rfl rfl rfl (fun b4_7=>?_)
 refine Wn ?_
 exact Vo (h2_7_9_11 {(y:G5) with c:=b4_7}) (sb rfl) (fun _ h=>h.sel [0,0,2,0,0] rfl)
 refine AV.cutAt (α:=G5) #[true,true,false,true,true,true,true,true,true,true,true,false,false,false,false] 5 (fun y=>[(0,.slice A ds.length c),(1,.slice B rs.length d),(2,.slice C bs.length e),(3,.pointer (some ⟨bb,0,none⟩)),(10,.int .i64 ds.length),(29,.slice A ds.length c),(30,.slice C bs.length e),(32,.pointer (some ⟨bb,0,none⟩)),(33,.int .i64 ds.length),(35,.int .i64 ds.length),(37,.int .i64 ds.length),(39,.int .i64 ds.length),(34,.slice y.b ds.length ds.length),(36,.slice y.c ds.length ds.length),(38,.slice y.d ds.length ds.length)]) (fun y=>Hp I w [Bun (Ios.rbL bb r),OS 4 bolK y.b ds.length (List.replicate ds.length false),OS 63 shK y.c ds.length (List.replicate ds.length sh0),OS 4 bolK y.d ds.length (List.replicate ds.length false)]) (fun y=>?_) (fun h5_7_9=>?_)
 refine V2 2 11 ?_ ?_
 refine OV.heap (fun w h=>h.nilOS (e:=37) (K:=intK .u64)) ?_
 refine Ye 4 rfl rfl rfl rfl rfl (fun w h=>h.rs hr3 (fun hn=>hro _ (.inr (.inr (.inl ⟨hn,rfl⟩))))) (by simp only[List.length_nil];omega) (fun b4_2a b4_2c=>?_)
 refine Wn ?_
 exact Vo (h2_5_7_9 {(y:G5) with a:=b4_2a,n:=b4_2c}) (sb rfl) (fun _ h=>h.sel [0,3,0,0,0] rfl)
 refine Ym (K:=(intK .i64)) (ds.length) (ds.length) (0) rfl rfl rfl rfl (fun b4_11=>?_)
 refine Wn ?_
 exact Vo (h5_7_9_11 {(y:G5) with e:=b4_11}) (sb rfl) (fun _ h=>h.sel [0,0,0,0,0] rfl)
 refine AV.cutAt (α:=G5) #[true,true,false,true,true,true,true,true,true,false,true,true,false,false,false] 5 (fun y=>[(0,.slice A ds.length c),(1,.slice B rs.length d),(2,.slice C bs.length e),(3,.pointer (some ⟨bb,0,none⟩)),(10,.int .i64 ds.length),(29,.slice A ds.length c),(30,.slice C bs.length e),(32,.pointer (some ⟨bb,0,none⟩)),(33,.int .i64 ds.length),(35,.int .i64 ds.length),(37,.int .i64 ds.length),(39,.int .i64 ds.length),(34,.slice y.b ds.length ds.length),(36,.slice y.c ds.length ds.length),(40,.slice y.e ds.length ds.length)]) (fun y=>Hp I w [Bun (Ios.rbL bb r),OS 4 bolK y.b ds.length (List.replicate ds.length false),OS 63 shK y.c ds.length (List.replicate ds.length sh0),OS 3 (intK .i64) y.e ds.length (List.replicate ds.length 0)]) (fun y=>?_) (fun h5_7_11=>?_)
 refine V2 2 9 ?_ ?_
 refine OV.heap (fun w h=>h.nilOS (e:=37) (K:=intK .u64)) ?_
 refine Ye 4 rfl rfl rfl rfl rfl (fun w h=>h.rs hr3 (fun hn=>hro _ (.inr (.inr (.inl ⟨hn,rfl⟩))))) (by simp only[List.length_nil];omega) (fun b4_2a b4_2c=>?_)
 refine Wn ?_
 exact Vo (h2_5_7_11 {(y:G5) with a:=b4_2a,n:=b4_2c}) (sb rfl) (fun _ h=>h.sel [0,3,0,0,0] rfl)
 refine Ym (K:=bolK) (ds.length) (ds.length) (false) rfl rfl rfl rfl (fun b4_9=>?_)
 refine Wn ?_
 exact Vo (h5_7_9_11 {(y:G5) with d:=b4_9}) (sb rfl) (fun _ h=>h.sel [0,0,0,1,0] rfl)
 refine AV.cutAt (α:=G5) #[true,true,false,true,true,true,true,false,true,true,true,true,false,false,false] 5 (fun y=>[(0,.slice A ds.length c),(1,.slice B rs.length d),(2,.slice C bs.length e),(3,.pointer (some ⟨bb,0,none⟩)),(10,.int .i64 ds.length),(29,.slice A ds.length c),(30,.slice C bs.length e),(32,.pointer (some ⟨bb,0,none⟩)),(33,.int .i64 ds.length),(35,.int .i64 ds.length),(37,.int .i64 ds.length),(39,.int .i64 ds.length),(34,.slice y.b ds.length ds.length),(38,.slice y.d ds.length ds.length),(40,.slice y.e ds.length ds.length)]) (fun y=>Hp I w [Bun (Ios.rbL bb r),OS 4 bolK y.b ds.length (List.replicate ds.length false),OS 4 bolK y.d ds.length (List.replicate ds.length false),OS 3 (intK .i64) y.e ds.length (List.replicate ds.length 0)]) (fun y=>?_) (fun h5_9_11=>?_)
 refine V2 2 7 ?_ ?_
 refine OV.heap (fun w h=>h.nilOS (e:=37) (K:=intK .u64)) ?_
 refine Ye 4 rfl rfl rfl rfl rfl (fun w h=>h.rs hr3 (fun hn=>hro _ (.inr (.inr (.inl ⟨hn,rfl⟩))))) (by simp only[List.length_nil];omega) (fun b4_2a b4_2c=>?_)
 refine Wn ?_
 exact Vo (h2_5_9_11 {(y:G5) with a:=b4_2a,n:=b4_2c}) (sb rfl) (fun _ h=>h.sel [0,3,0,0,0] rfl)
 refine Ym (K:=shK) (ds.length) (ds.length) (sh0) rfl rfl rfl rfl (fun b4_7=>?_)
 refine Wn ?_
 exact Vo (h5_7_9_11 {(y:G5) with c:=b4_7}) (sb rfl) (fun _ h=>h.sel [0,0,2,0,0] rfl)
 refine AV.cutAt (α:=G5) #[true,true,false,true,true,false,true,true,true,true,true,true,false,false,false] 5 (fun y=>[(0,.slice A ds.length c),(1,.slice B rs.length d),(2,.slice C bs.length e),(3,.pointer (some ⟨bb,0,none⟩)),(10,.int .i64 ds.length),(29,.slice A ds.length c),(30,.slice C bs.length e),(32,.pointer (some ⟨bb,0,none⟩)),(33,.int .i64 ds.length),(35,.int .i64 ds.length),(37,.int .i64 ds.length),(39,.int .i64 ds.length),(36,.slice y.c ds.length ds.length),(38,.slice y.d ds.length ds.length),(40,.slice y.e ds.length ds.length)]) (fun y=>Hp I w [Bun (Ios.rbL bb r),OS 63 shK y.c ds.length (List.replicate ds.length sh0),OS 4 bolK y.d ds.length (List.replicate ds.length false),OS 3 (intK .i64) y.e ds.length (List.replicate ds.length 0)]) (fun y=>?_) (fun h7_9_11=>?_)
 refine V2 2 5 ?_ ?_
 refine OV.heap (fun w h=>h.nilOS (e:=37) (K:=intK .u64)) ?_
 refine Ye 4 rfl rfl rfl rfl rfl (fun w h=>h.rs hr3 (fun hn=>hro _ (.inr (.inr (.inl ⟨hn,rfl⟩))))) (by simp only[List.length_nil];omega) (fun b4_2a b4_2c=>?_)
 refine Wn ?_
 exact Vo (h2_7_9_11 {(y:G5) with a:=b4_2a,n:=b4_2c}) (sb rfl) (fun _ h=>h.sel [0,3,0,0,0] rfl)
 refine Ym (K:=bolK) (ds.length) (ds.length) (false) rfl rfl rfl rfl (fun b4_5=>?_)
 refine Wn ?_
 exact Vo (h5_7_9_11 {(y:G5) with b:=b4_5}) (sb rfl) (fun _ h=>h.sel [0,3,0,0,0] rfl)
 refine AV.cutAt (α:=G5) #[true,true,true,true,true,true,true,false,true,false,true,false,false,false,false] 6 (fun y=>[(0,.slice A ds.length c),(1,.slice B rs.length d),(2,.slice C bs.length e),(3,.pointer (some ⟨bb,0,none⟩)),(10,.int .i64 ds.length),(29,.slice A ds.length c),(30,.slice C bs.length e),(32,.pointer (some ⟨bb,0,none⟩)),(33,.int .i64 ds.length),(35,.int .i64 ds.length),(37,.int .i64 ds.length),(39,.int .i64 ds.length),(31,.slice y.a bs.length y.n),(34,.slice y.b ds.length ds.length)]) (fun y=>Hp I w [Bun (Ios.rbL bb r),OS 37 (intK .u64) y.a y.n bs,OS 4 bolK y.b ds.length (List.replicate ds.length false)]) (fun y=>?_) (fun h2_5=>?_)
 refine V3 7 9 11 ?_ ?_ ?_
 refine Ym (K:=shK) (ds.length) (ds.length) (sh0) rfl rfl rfl rfl (fun b4_7=>?_)
 refine Wn ?_
 exact Vo (h2_5_7 {(y:G5) with c:=b4_7}) (sb rfl) (fun _ h=>h.sel [0,0,0,0] rfl)
 refine Ym (K:=bolK) (ds.length) (ds.length) (false) rfl rfl rfl rfl (fun b4_9=>?_)
 refine Wn ?_
 exact Vo (h2_5_9 {(y:G5) with d:=b4_9}) (sb rfl) (fun _ h=>h.sel [0,0,0,0] rfl)
 refine Ym (K:=(intK .i64)) (ds.length) (ds.length) (0) rfl rfl rfl rfl (fun b4_11=>?_)
 refine Wn ?_
 exact Vo (h2_5_11 {(y:G5) with e:=b4_11}) (sb rfl) (fun _ h=>h.sel [0,0,0,0] rfl)
 refine AV.cutAt (α:=G5) #[true,true,true,true,true,false,true,true,true,false,true,false,false,false,false] 6 (fun y=>[(0,.slice A ds.length c),(1,.slice B rs.length d),(2,.slice C bs.length e),(3,.pointer (some ⟨bb,0,none⟩)),(10,.int .i64 ds.length),(29,.slice A ds.length c),(30,.slice C bs.length e),(32,.pointer (some ⟨bb,0,none⟩)),(33,.int .i64 ds.length),(35,.int .i64 ds.length),(37,.int .i64 ds.length),(39,.int .i64 ds.length),(31,.slice y.a bs.length y.n),(36,.slice y.c ds.length ds.length)]) (fun y=>Hp I w [Bun (Ios.rbL bb r),OS 37 (intK .u64) y.a y.n bs,OS 63 shK y.c ds.length (List.replicate ds.length sh0)]) (fun y=>?_) (fun h2_7=>?_)
 refine V3 5 9 11 ?_ ?_ ?_
 refine Ym (K:=bolK) (ds.length) (ds.length) (false) rfl rfl rfl rfl (fun b4_5=>?_)
 refine Wn ?_
 exact Vo (h2_5_7 {(y:G5) with b:=b4_5}) (sb rfl) (fun _ h=>h.sel [0,0,1,0] rfl)
 refine Ym (K:=bolK) (ds.length) (ds.length) (false) rfl rfl rfl rfl (fun b4_9=>?_)
 refine Wn ?_
 exact Vo (h2_7_9 {(y:G5) with d:=b4_9}) (sb rfl) (fun _ h=>h.sel [0,0,0,0] rfl)
 refine Ym (K:=(intK .i64)) (ds.length) (ds.length) (0) rfl rfl rfl rfl (fun b4_11=>?_)
 refine Wn ?_
 exact Vo (h2_7_11 {(y:G5) with e:=b4_11}) (sb rfl) (fun _ h=>h.sel [0,0,0,0] rfl)
 refine AV.cutAt (α:=G5) #[true,true,true,true,true,false,true,false,true,true,true,false,false,false,false] 6 (fun y=>[(0,.slice A ds.length c),(1,.slice B rs.length d),(2,.slice C bs.length e),(3,.pointer (some ⟨bb,0,none⟩)),(10,.int .i64 ds.length),(29,.slice A ds.length c),(30,.slice C bs.length e),(32,.pointer (some ⟨bb,0,none⟩)),(33,.int .i64 ds.length),(35,.int .i64 ds.length),(37,.int .i64 ds.length),(39,.int .i64 ds.length),(31,.slice y.a bs.length y.n),(38,.slice y.d ds.length ds.length)]) (fun y=>Hp I w [Bun (Ios.rbL bb r),OS 37 (intK .u64) y.a y.n bs,OS 4 bolK y.d ds.length (List.replicate ds.length false)]) (fun y=>?_) (fun h2_9=>?_)
 refine V3 5 7 11 ?_ ?_ ?_
 refine Ym (K:=bolK) (ds.length) (ds.length) (false) rfl rfl rfl rfl (fun b4_5=>?_)
 refine Wn ?_
 exact Vo (h2_5_9 {(y:G5) with b:=b4_5}) (sb rfl) (fun _ h=>h.sel [0,0,1,0] rfl)
 refine Ym (K:=shK) (ds.length) (ds.length) (sh0) rfl rfl rfl rfl (fun b4_7=>?_)
 refine Wn ?_
 exact Vo (h2_7_9 {(y:G5) with c:=b4_7}) (sb rfl) (fun _ h=>h.sel [0,0,1,0] rfl)
 refine Ym (K:=(intK .i64)) (ds.length) (ds.length) (0) rfl rfl rfl rfl (fun b4_11=>?_)
 refine Wn ?_
 exact Vo (h2_9_11 {(y:G5) with e:=b4_11}) (sb rfl) (fun _ h=>h.sel [0,0,0,0] rfl)
 refine AV.cutAt (α:=G5) #[true,true,true,true,true,false,true,false,true,false,true,true,false,false,false] 6 (fun y=>[(0,.slice A ds.length c),(1,.slice B rs.length d),(2,.slice C bs.length e),(3,.pointer (some ⟨bb,0,none⟩)),(10,.int .i64 ds.length),(29,.slice A ds.length c),(30,.slice C bs.length e),(32,.pointer (some ⟨bb,0,none⟩)),(33,.int .i64 ds.length),(35,.int .i64 ds.length),(37,.int .i64 ds.length),(39,.int .i64 ds.length),(31,.slice y.a bs.length y.n),(40,.slice y.e ds.length ds.length)]) (fun y=>Hp I w [Bun (Ios.rbL bb r),OS 37 (intK .u64) y.a y.n bs,OS 3 (intK .i64) y.e ds.length (List.replicate ds.length 0)]) (fun y=>?_) (fun h2_11=>?_)
 refine V3 5 7 9 ?_ ?_ ?_
 refine Ym (K:=bolK) (ds.length) (ds.length) (false) rfl rfl rfl rfl (fun b4_5=>?_)
 refine Wn ?_
 exact Vo (h2_5_11 {(y:G5) with b:=b4_5}) (sb rfl) (fun _ h=>h.sel [0,0,1,0] rfl)
 refine Ym (K:=shK) (ds.length) (ds.length) (sh0) rfl rfl rfl rfl (fun b4_7=>?_)
 refine Wn ?_
 exact Vo (h2_7_11 {(y:G5) with c:=b4_7}) (sb rfl) (fun _ h=>h.sel [0,0,1,0] rfl)
 refine Ym (K:=bolK) (ds.length) (ds.length) (false) rfl rfl rfl rfl (fun b4_9=>?_)
 refine Wn ?_
 exact Vo (h2_9_11 {(y:G5) with d:=b4_9}) (sb rfl) (fun _ h=>h.sel [0,0,1,0] rfl)
 refine AV.cutAt (α:=G5) #[true,true,false,true,true,true,true,true,true,false,true,false,false,false,false] 6 (fun y=>[(0,.slice A ds.length c),(1,.slice B rs.length d),(2,.slice C bs.length e),(3,.pointer (some ⟨bb,0,none⟩)),(10,.int .i64 ds.length),(29,.slice A ds.length c),(30,.slice C bs.length e),(32,.pointer (some ⟨bb,0,none⟩)),(33,.int .i64 ds.length),(35,.int .i64 ds.length),(37,.int .i64 ds.length),(39,.int .i64 ds.length),(34,.slice y.b ds.length ds.length),(36,.slice y.c ds.length ds.length)]) (fun y=>Hp I w [Bun (Ios.rbL bb r),OS 4 bolK y.b ds.length (List.replicate ds.length false),OS 63 shK y.c ds.length (List.replicate ds.length sh0)]) (fun y=>?_) (fun h5_7=>?_)
 refine V3 2 9 11 ?_ ?_ ?_
 refine OV.heap (fun w h=>h.nilOS (e:=37) (K:=intK .u64)) ?_
 refine Ye 3 rfl rfl rfl rfl rfl (fun w h=>h.rs hr3 (fun hn=>hro _ (.inr (.inr (.inl ⟨hn,rfl⟩))))) (by simp only[List.length_nil];omega) (fun b4_2a b4_2c=>?_)
 refine Wn ?_
 exact Vo (h2_5_7 {(y:G5) with a:=b4_2a,n:=b4_2c}) (sb rfl) (fun _ h=>h.sel [0,2,0,0] rfl)
 refine Ym (K:=bolK) (ds.length) (ds.length) (false) rfl rfl rfl rfl (fun b4_9=>?_)
 refine Wn ?_
 exact Vo (h5_7_9 {(y:G5) with d:=b4_9}) (sb rfl) (fun _ h=>h.sel [0,0,0,0] rfl)
 refine Ym (K:=(intK .i64)) (ds.length) (ds.length) (0) rfl rfl rfl rfl (fun b4_11=>?_)
 refine Wn ?_
 exact Vo (h5_7_11 {(y:G5) with e:=b4_11}) (sb rfl) (fun _ h=>h.sel [0,0,0,0] rfl)
 refine AV.cutAt (α:=G5) #[true,true,false,true,true,true,true,false,true,true,true,false,false,false,false] 6 (fun y=>[(0,.slice A ds.length c),(1,.slice B rs.length d),(2,.slice C bs.length e),(3,.pointer (some ⟨bb,0,none⟩)),(10,.int .i64 ds.length),(29,.slice A ds.length c),(30,.slice C bs.length e),(32,.pointer (some ⟨bb,0,none⟩)),(33,.int .i64 ds.length),(35,.int .i64 ds.length),(37,.int .i64 ds.length),(39,.int .i64 ds.length),(34,.slice y.b ds.length ds.length),(38,.slice y.d ds.length ds.length)]) (fun y=>Hp I w [Bun (Ios.rbL bb r),OS 4 bolK y.b ds.length (List.replicate ds.length false),OS 4 bolK y.d ds.length (List.replicate ds.length false)]) (fun y=>?_) (fun h5_9=>?_)
 refine V3 2 7 11 ?_ ?_ ?_
 refine OV.heap (fun w h=>h.nilOS (e:=37) (K:=intK .u64)) ?_
 refine Ye 3 rfl rfl rfl rfl rfl (fun w h=>h.rs hr3 (fun hn=>hro _ (.inr (.inr (.inl ⟨hn,rfl⟩))))) (by simp only[List.length_nil];omega) (fun b4_2a b4_2c=>?_)
 refine Wn ?_
 exact Vo (h2_5_9 {(y:G5) with a:=b4_2a,n:=b4_2c}) (sb rfl) (fun _ h=>h.sel [0,2,0,0] rfl)
 refine Ym (K:=shK) (ds.length) (ds.length) (sh0) rfl rfl rfl rfl (fun b4_7=>?_)
 refine Wn ?_
 exact Vo (h5_7_9 {(y:G5) with c:=b4_7}) (sb rfl) (fun _ h=>h.sel [0,0,1,0] rfl)
 refine Ym (K:=(intK .i64)) (ds.length) (ds.length) (0) rfl rfl rfl rfl (fun b4_11=>?_)
 refine Wn ?_
 exact Vo (h5_9_11 {(y:G5) with e:=b4_11}) (sb rfl) (fun _ h=>h.sel [0,0,0,0] rfl)
 refine AV.cutAt (α:=G5) #[true,true,false,true,true,true,true,false,true,false,true,true,false,false,false] 6 (fun y=>[(0,.slice A ds.length c),(1,.slice B rs.length d),(2,.slice C bs.length e),(3,.pointer (some ⟨bb,0,none⟩)),(10,.int .i64 ds.length),(29,.slice A ds.length c),(30,.slice C bs.length e),(32,.pointer (some ⟨bb,0,none⟩)),(33,.int .i64 ds.length),(35,.int .i64 ds.length),(37,.int .i64 ds.length),(39,.int .i64 ds.length),(34,.slice y.b ds.length ds.length),(40,.slice y.e ds.length ds.length)]) (fun y=>Hp I w [Bun (Ios.rbL bb r),OS 4 bolK y.b ds.length (List.replicate ds.length false),OS 3 (intK .i64) y.e ds.length (List.replicate ds.length 0)]) (fun y=>?_) (fun h5_11=>?_)
 refine V3 2 7 9 ?_ ?_ ?_
 refine OV.heap (fun w h=>h.nilOS (e:=37) (K:=intK .u64)) ?_
 refine Ye 3 rfl rfl rfl rfl rfl (fun w h=>h.rs hr3 (fun hn=>hro _ (.inr (.inr (.inl ⟨hn,rfl⟩))))) (by simp only[List.length_nil];omega) (fun b4_2a b4_2c=>?_)
 refine Wn ?_
 exact Vo (h2_5_11 {(y:G5) with a:=b4_2a,n:=b4_2c}) (sb rfl) (fun _ h=>h.sel [0,2,0,0] rfl)
 refine Ym (K:=shK) (ds.length) (ds.length) (sh0) rfl rfl rfl rfl (fun b4_7=>?_)
 refine Wn ?_
 exact Vo (h5_7_11 {(y:G5) with c:=b4_7}) (sb rfl) (fun _ h=>h.sel [0,0,1,0] rfl)
 refine Ym (K:=bolK) (ds.length) (ds.length) (false) rfl rfl rfl rfl (fun b4_9=>?_)
 refine Wn ?_
 exact Vo (h5_9_11 {(y:G5) with d:=b4_9}) (sb rfl) (fun _ h=>h.sel [0,0,1,0] rfl)
 refine AV.cutAt (α:=G5) #[true,true,false,true,true,false,true,true,true,true,true,false,false,false,false] 6 (fun y=>[(0,.slice A ds.length c),(1,.slice B rs.length d),(2,.slice C bs.length e),(3,.pointer (some ⟨bb,0,none⟩)),(10,.int .i64 ds.length),(29,.slice A ds.length c),(30,.slice C bs.length e),(32,.pointer (some ⟨bb,0,none⟩)),(33,.int .i64 ds.length),(35,.int .i64 ds.length),(37,.int .i64 ds.length),(39,.int .i64 ds.length),(36,.slice y.c ds.length ds.length),(38,.slice y.d ds.length ds.length)]) (fun y=>Hp I w [Bun (Ios.rbL bb r),OS 63 shK y.c ds.length (List.replicate ds.length sh0),OS 4 bolK y.d ds.length (List.replicate ds.length false)]) (fun y=>?_) (fun h7_9=>?_)
 refine V3 2 5 11 ?_ ?_ ?_
 refine OV.heap (fun w h=>h.nilOS (e:=37) (K:=intK .u64)) ?_
 refine Ye 3 rfl rfl rfl rfl rfl (fun w h=>h.rs hr3 (fun hn=>hro _ (.inr (.inr (.inl ⟨hn,rfl⟩))))) (by simp only[List.length_nil];omega) (fun b4_2a b4_2c=>?_)
 refine Wn ?_
 exact Vo (h2_7_9 {(y:G5) with a:=b4_2a,n:=b4_2c}) (sb rfl) (fun _ h=>h.sel [0,2,0,0] rfl)
 refine Ym (K:=bolK) (ds.length) (ds.length) (false) rfl rfl rfl rfl (fun b4_5=>?_)
 refine Wn ?_
 exact Vo (h5_7_9 {(y:G5) with b:=b4_5}) (sb rfl) (fun _ h=>h.sel [0,2,0,0] rfl)
 refine Ym (K:=(intK .i64)) (ds.length) (ds.length) (0) rfl rfl rfl rfl (fun b4_11=>?_)
 refine Wn ?_
 exact Vo (h7_9_11 {(y:G5) with e:=b4_11}) (sb rfl) (fun _ h=>h.sel [0,0,0,0] rfl)
 refine AV.cutAt (α:=G5) #[true,true,false,true,true,false,true,true,true,false,true,true,false,false,false] 6 (fun y=>[(0,.slice A ds.length c),(1,.slice B rs.length d),(2,.slice C bs.length e),(3,.pointer (some ⟨bb,0,none⟩)),(10,.int .i64 ds.length),(29,.slice A ds.length c),(30,.slice C bs.length e),(32,.pointer (some ⟨bb,0,none⟩)),(33,.int .i64 ds.length),(35,.int .i64 ds.length),(37,.int .i64 ds.length),(39,.int .i64 ds.length),(36,.slice y.c ds.length ds.length),(40,.slice y.e ds.length ds.length)]) (fun y=>Hp I w [Bun (Ios.rbL bb r),OS 63 shK y.c ds.length (List.replicate ds.length sh0),OS 3 (intK .i64) y.e ds.length (List.replicate ds.length 0)]) (fun y=>?_) (fun h7_11=>?_)
 refine V3 2 5 9 ?_ ?_ ?_
 refine OV.heap (fun w h=>h.nilOS (e:=37) (K:=intK .u64)) ?_
 refine Ye 3 rfl rfl rfl rfl rfl (fun w h=>h.rs hr3 (fun hn=>hro _ (.inr (.inr (.inl ⟨hn,rfl⟩))))) (by simp only[List.length_nil];omega) (fun b4_2a b4_2c=>?_)
 refine Wn ?_
 exact Vo (h2_7_11 {(y:G5) with a:=b4_2a,n:=b4_2c}) (sb rfl) (fun _ h=>h.sel [0,2,0,0] rfl)
 refine Ym (K:=bolK) (ds.length) (ds.length) (false) rfl rfl rfl rfl (fun b4_5=>?_)
 refine Wn ?_
 exact Vo (h5_7_11 {(y:G5) with b:=b4_5}) (sb rfl) (fun _ h=>h.sel [0,2,0,0] rfl)
 refine Ym (K:=bolK) (ds.length) (ds.length) (false) rfl rfl rfl rfl (fun b4_9=>?_)
 refine Wn ?_
 exact Vo (h7_9_11 {(y:G5) with d:=b4_9}) (sb rfl) (fun _ h=>h.sel [0,0,1,0] rfl)
 refine AV.cutAt (α:=G5) #[true,true,false,true,true,false,true,false,true,true,true,true,false,false,false] 6 (fun y=>[(0,.slice A ds.length c),(1,.slice B rs.length d),(2,.slice C bs.length e),(3,.pointer (some ⟨bb,0,none⟩)),(10,.int .i64 ds.length),(29,.slice A ds.length c),(30,.slice C bs.length e),(32,.pointer (some ⟨bb,0,none⟩)),(33,.int .i64 ds.length),(35,.int .i64 ds.length),(37,.int .i64 ds.length),(39,.int .i64 ds.length),(38,.slice y.d ds.length ds.length),(40,.slice y.e ds.length ds.length)]) (fun y=>Hp I w [Bun (Ios.rbL bb r),OS 4 bolK y.d ds.length (List.replicate ds.length false),OS 3 (intK .i64) y.e ds.length (List.replicate ds.length 0)]) (fun y=>?_) (fun h9_11=>?_)
 refine V3 2 5 7 ?_ ?_ ?_
 refine OV.heap (fun w h=>h.nilOS (e:=37) (K:=intK .u64)) ?_
 refine Ye 3 rfl rfl rfl rfl rfl (fun w h=>h.rs hr3 (fun hn=>hro _ (.inr (.inr (.inl ⟨hn,rfl⟩))))) (by simp only[List.length_nil];omega) (fun b4_2a b4_2c=>?_)
 refine Wn ?_
 exact Vo (h2_9_11 {(y:G5) with a:=b4_2a,n:=b4_2c}) (sb rfl) (fun _ h=>h.sel [0,2,0,0] rfl)
 refine Ym (K:=bolK) (ds.length) (ds.length) (false) rfl rfl rfl rfl (fun b4_5=>?_)
 refine Wn ?_
 exact Vo (h5_9_11 {(y:G5) with b:=b4_5}) (sb rfl) (fun _ h=>h.sel [0,2,0,0] rfl)
 refine Ym (K:=shK) (ds.length) (ds.length) (sh0) rfl rfl rfl rfl (fun b4_7=>?_)
 refine Wn ?_
 exact Vo (h7_9_11 {(y:G5) with c:=b4_7}) (sb rfl) (fun _ h=>h.sel [0,2,0,0] rfl)
 refine AV.cutAt (α:=G5) #[true,true,true,true,true,false,true,false,true,false,true,false,false,false,false] 7 (fun y=>[(0,.slice A ds.length c),(1,.slice B rs.length d),(2,.slice C bs.length e),(3,.pointer (some ⟨bb,0,none⟩)),(10,.int .i64 ds.length),(29,.slice A ds.length c),(30,.slice C bs.length e),(32,.pointer (some ⟨bb,0,none⟩)),(33,.int .i64 ds.length),(35,.int .i64 ds.length),(37,.int .i64 ds.length),(39,.int .i64 ds.length),(31,.slice y.a bs.length y.n)]) (fun y=>Hp I w [Bun (Ios.rbL bb r),OS 37 (intK .u64) y.a y.n bs]) (fun y=>?_) (fun h2=>?_)
 refine V4 5 7 9 11 ?_ ?_ ?_ ?_
 refine Ym (K:=bolK) (ds.length) (ds.length) (false) rfl rfl rfl rfl (fun b4_5=>?_)
 refine Wn ?_
 exact Vo (h2_5 {(y:G5) with b:=b4_5}) (sb rfl) (fun _ h=>h.sel [0,0,0] rfl)
 refine Ym (K:=shK) (ds.length) (ds.length) (sh0) rfl rfl rfl rfl (fun b4_7=>?_)
 refine Wn ?_
 exact Vo (h2_7 {(y:G5) with c:=b4_7}) (sb rfl) (fun _ h=>h.sel [0,0,0] rfl)
 refine Ym (K:=bolK) (ds.length) (ds.length) (false) rfl rfl rfl rfl (fun b4_9=>?_)
 refine Wn ?_
 exact Vo (h2_9 {(y:G5) with d:=b4_9}) (sb rfl) (fun _ h=>h.sel [0,0,0] rfl)
 refine Ym (K:=(intK .i64)) (ds.length) (ds.length) (0) rfl rfl rfl rfl (fun b4_11=>?_)
 refine Wn ?_
 exact Vo (h2_11 {(y:G5) with e:=b4_11}) (sb rfl) (fun _ h=>h.sel [0,0,0] rfl)
 refine AV.cutAt (α:=G5) #[true,true,false,true,true,true,true,false,true,false,true,false,false,false,false] 7 (fun y=>[(0,.slice A ds.length c),(1,.slice B rs.length d),(2,.slice C bs.length e),(3,.pointer (some ⟨bb,0,none⟩)),(10,.int .i64 ds.length),(29,.slice A ds.length c),(30,.slice C bs.length e),(32,.pointer (some ⟨bb,0,none⟩)),(33,.int .i64 ds.length),(35,.int .i64 ds.length),(37,.int .i64 ds.length),(39,.int .i64 ds.length),(34,.slice y.b ds.length ds.length)]) (fun y=>Hp I w [Bun (Ios.rbL bb r),OS 4 bolK y.b ds.length (List.replicate ds.length false)]) (fun y=>?_) (fun h5=>?_)
 refine V4 2 7 9 11 ?_ ?_ ?_ ?_
 refine OV.heap (fun w h=>h.nilOS (e:=37) (K:=intK .u64)) ?_
 refine Ye 2 rfl rfl rfl rfl rfl (fun w h=>h.rs hr3 (fun hn=>hro _ (.inr (.inr (.inl ⟨hn,rfl⟩))))) (by simp only[List.length_nil];omega) (fun b4_2a b4_2c=>?_)
 refine Wn ?_
 exact Vo (h2_5 {(y:G5) with a:=b4_2a,n:=b4_2c}) (sb rfl) (fun _ h=>h.sel [0,1,0] rfl)
 refine Ym (K:=shK) (ds.length) (ds.length) (sh0) rfl rfl rfl rfl (fun b4_7=>?_)
 refine Wn ?_
 exact Vo (h5_7 {(y:G5) with c:=b4_7}) (sb rfl) (fun _ h=>h.sel [0,0,0] rfl)
 refine Ym (K:=bolK) (ds.length) (ds.length) (false) rfl rfl rfl rfl (fun b4_9=>?_)
 refine Wn ?_
 exact Vo (h5_9 {(y:G5) with d:=b4_9}) (sb rfl) (fun _ h=>h.sel [0,0,0] rfl)
 refine Ym (K:=(intK .i64)) (ds.length) (ds.length) (0) rfl rfl rfl rfl (fun b4_11=>?_)
 refine Wn ?_
 exact Vo (h5_11 {(y:G5) with e:=b4_11}) (sb rfl) (fun _ h=>h.sel [0,0,0] rfl)
 refine AV.cutAt (α:=G5) #[true,true,false,true,true,false,true,true,true,false,true,false,false,false,false] 7 (fun y=>[(0,.slice A ds.length c),(1,.slice B rs.length d),(2,.slice C bs.length e),(3,.pointer (some ⟨bb,0,none⟩)),(10,.int .i64 ds.length),(29,.slice A ds.length c),(30,.slice C bs.length e),(32,.pointer (some ⟨bb,0,none⟩)),(33,.int .i64 ds.length),(35,.int .i64 ds.length),(37,.int .i64 ds.length),(39,.int .i64 ds.length),(36,.slice y.c ds.length ds.length)]) (fun y=>Hp I w [Bun (Ios.rbL bb r),OS 63 shK y.c ds.length (List.replicate ds.length sh0)]) (fun y=>?_) (fun h7=>?_)
 refine V4 2 5 9 11 ?_ ?_ ?_ ?_
 refine OV.heap (fun w h=>h.nilOS (e:=37) (K:=intK .u64)) ?_
 refine Ye 2 rfl rfl rfl rfl rfl (fun w h=>h.rs hr3 (fun hn=>hro _ (.inr (.inr (.inl ⟨hn,rfl⟩))))) (by simp only[List.length_nil];omega) (fun b4_2a b4_2c=>?_)
 refine Wn ?_
 exact Vo (h2_7 {(y:G5) with a:=b4_2a,n:=b4_2c}) (sb rfl) (fun _ h=>h.sel [0,1,0] rfl)
 refine Ym (K:=bolK) (ds.length) (ds.length) (false) rfl rfl rfl rfl (fun b4_5=>?_)
 refine Wn ?_
 exact Vo (h5_7 {(y:G5) with b:=b4_5}) (sb rfl) (fun _ h=>h.sel [0,1,0] rfl)
 refine Ym (K:=bolK) (ds.length) (ds.length) (false) rfl rfl rfl rfl (fun b4_9=>?_)
 refine Wn ?_
 exact Vo (h7_9 {(y:G5) with d:=b4_9}) (sb rfl) (fun _ h=>h.sel [0,0,0] rfl)
 refine Ym (K:=(intK .i64)) (ds.length) (ds.length) (0) rfl rfl rfl rfl (fun b4_11=>?_)
 refine Wn ?_
 exact Vo (h7_11 {(y:G5) with e:=b4_11}) (sb rfl) (fun _ h=>h.sel [0,0,0] rfl)
 refine AV.cutAt (α:=G5) #[true,true,false,true,true,false,true,false,true,true,true,false,false,false,false] 7 (fun y=>[(0,.slice A ds.length c),(1,.slice B rs.length d),(2,.slice C bs.length e),(3,.pointer (some ⟨bb,0,none⟩)),(10,.int .i64 ds.length),(29,.slice A ds.length c),(30,.slice C bs.length e),(32,.pointer (some ⟨bb,0,none⟩)),(33,.int .i64 ds.length),(35,.int .i64 ds.length),(37,.int .i64 ds.length),(39,.int .i64 ds.length),(38,.slice y.d ds.length ds.length)]) (fun y=>Hp I w [Bun (Ios.rbL bb r),OS 4 bolK y.d ds.length (List.replicate ds.length false)]) (fun y=>?_) (fun h9=>?_)
 refine V4 2 5 7 11 ?_ ?_ ?_ ?_
 refine OV.heap (fun w h=>h.nilOS (e:=37) (K:=intK .u64)) ?_
 refine Ye 2 rfl rfl rfl rfl rfl (fun w h=>h.rs hr3 (fun hn=>hro _ (.inr (.inr (.inl ⟨hn,rfl⟩))))) (by simp only[List.length_nil];omega) (fun b4_2a b4_2c=>?_)
 refine Wn ?_
 exact Vo (h2_9 {(y:G5) with a:=b4_2a,n:=b4_2c}) (sb rfl) (fun _ h=>h.sel [0,1,0] rfl)
 refine Ym (K:=bolK) (ds.length) (ds.length) (false) rfl rfl rfl rfl (fun b4_5=>?_)
 refine Wn ?_
 exact Vo (h5_9 {(y:G5) with b:=b4_5}) (sb rfl) (fun _ h=>h.sel [0,1,0] rfl)
 refine Ym (K:=shK) (ds.length) (ds.length) (sh0) rfl rfl rfl rfl (fun b4_7=>?_)
 refine Wn ?_
 exact Vo (h7_9 {(y:G5) with c:=b4_7}) (sb rfl) (fun _ h=>h.sel [0,1,0] rfl)
 refine Ym (K:=(intK .i64)) (ds.length) (ds.length) (0) rfl rfl rfl rfl (fun b4_11=>?_)
 refine Wn ?_
 exact Vo (h9_11 {(y:G5) with e:=b4_11}) (sb rfl) (fun _ h=>h.sel [0,0,0] rfl)
 refine AV.cutAt (α:=G5) #[true,true,false,true,true,false,true,false,true,false,true,true,false,false,false] 7 (fun y=>[(0,.slice A ds.length c),(1,.slice B rs.length d),(2,.slice C bs.length e),(3,.pointer (some ⟨bb,0,none⟩)),(10,.int .i64 ds.length),(29,.slice A ds.length c),(30,.slice C bs.length e),(32,.pointer (some ⟨bb,0,none⟩)),(33,.int .i64 ds.length),(35,.int .i64 ds.length),(37,.int .i64 ds.length),(39,.int .i64 ds.length),(40,.slice y.e ds.length ds.length)]) (fun y=>Hp I w [Bun (Ios.rbL bb r),OS 3 (intK .i64) y.e ds.length (List.replicate ds.length 0)]) (fun y=>?_) (fun h11=>?_)
 refine V4 2 5 7 9 ?_ ?_ ?_ ?_
 refine OV.heap (fun w h=>h.nilOS (e:=37) (K:=intK .u64)) ?_
 refine Ye 2 rfl rfl rfl rfl rfl (fun w h=>h.rs hr3 (fun hn=>hro _ (.inr (.inr (.inl ⟨hn,rfl⟩))))) (by simp only[List.length_nil];omega) (fun b4_2a b4_2c=>?_)
 refine Wn ?_
 exact Vo (h2_11 {(y:G5) with a:=b4_2a,n:=b4_2c}) (sb rfl) (fun _ h=>h.sel [0,1,0] rfl)
 refine Ym (K:=bolK) (ds.length) (ds.length) (false) rfl rfl rfl rfl (fun b4_5=>?_)
 refine Wn ?_
 exact Vo (h5_11 {(y:G5) with b:=b4_5}) (sb rfl) (fun _ h=>h.sel [0,1,0] rfl)
 refine Ym (K:=shK) (ds.length) (ds.length) (sh0) rfl rfl rfl rfl (fun b4_7=>?_)
 refine Wn ?_
 exact Vo (h7_11 {(y:G5) with c:=b4_7}) (sb rfl) (fun _ h=>h.sel [0,1,0] rfl)
 refine Ym (K:=bolK) (ds.length) (ds.length) (false) rfl rfl rfl rfl (fun b4_9=>?_)
 refine Wn ?_
 exact Vo (h9_11 {(y:G5) with d:=b4_9}) (sb rfl) (fun _ h=>h.sel [0,1,0] rfl)
 refine W 0 ?_
 refine W 1 ?_
 refine W 3 ?_
 refine W 4 ?_
 refine W 6 ?_
 refine W 8 ?_
 refine W 10 ?_
 refine V5 2 5 7 9 11 ?_ ?_ ?_ ?_ ?_
 refine OV.heap (fun w h=>h.nilOS (e:=37) (K:=intK .u64)) ?_
 refine Ye 1 rfl rfl rfl rfl rfl (fun w h=>h.rs hr3 (fun hn=>hro _ (.inr (.inr (.inl ⟨hn,rfl⟩))))) (by simp only[List.length_nil];omega) (fun b4_2a b4_2c=>?_)
 refine Wn ?_
 exact Vo (h2 {(⟨none,none,none,none,none,0⟩:G5) with a:=b4_2a,n:=b4_2c}) (sb rfl) (fun _ h=>h.sel [0,0] rfl)
 refine Ym (K:=bolK) (ds.length) (ds.length) (false) rfl rfl rfl rfl (fun b4_5=>?_)
 refine Wn ?_
 exact Vo (h5 {(⟨none,none,none,none,none,0⟩:G5) with b:=b4_5}) (sb rfl) (fun _ h=>h.sel [0,0] rfl)
 refine Ym (K:=shK) (ds.length) (ds.length) (sh0) rfl rfl rfl rfl (fun b4_7=>?_)
 refine Wn ?_
 exact Vo (h7 {(⟨none,none,none,none,none,0⟩:G5) with c:=b4_7}) (sb rfl) (fun _ h=>h.sel [0,0] rfl)
 refine Ym (K:=bolK) (ds.length) (ds.length) (false) rfl rfl rfl rfl (fun b4_9=>?_)
 refine Wn ?_
 exact Vo (h9 {(⟨none,none,none,none,none,0⟩:G5) with d:=b4_9}) (sb rfl) (fun _ h=>h.sel [0,0] rfl)
 refine Ym (K:=(intK .i64)) (ds.length) (ds.length) (0) rfl rfl rfl rfl (fun b4_11=>?_)
 refine Wn ?_
 exact Vo (h11 {(⟨none,none,none,none,none,0⟩:G5) with e:=b4_11}) (sb rfl) (fun _ h=>h.sel [0,0] rfl)
end Go.Proofs.YtkofjhglgoojiaaGreatDoor.Pw
