/-
  Joined.
-/
import Derived.Test.YtkofjhglgoojiaaGreatDoorP19
set_option linter.unusedSimpArgs false
set_option linter.unusedVariables false
namespace Go.Proofs.YtkofjhglgoojiaaGreatDoor.Rl
set_option maxRecDepth 100000
set_option maxHeartbeats 20000000
open Go.Tk Go.Sv Go.Rails
attribute [local irreducible] KV SV OV Step Code.wp wpList Exit.then Exit.inBlock Blk OS Big Bun
theorem neighbors_fn {A:Option Addr} {c:Nat} {links:List Link} (n:Nat) (b:Bool) {w:World} (hr:RS w linkK A links) (hl:links.length≤1024) (hn:n≤128) (hok: ∀i,i<links.length→okL n (links.getD i linkK.d)):Fx Tryz.prog 150 [.int .i64 n,.slice A links.length c,.bool b] w [] no (fun v L=> ∃A2 c2 hs,v= .slice A2 n c2∧L=[OS 32 hdK A2 c2 hs,Big hdF hs]∧hs.length=n∧ ∀s,s<n→(hs.getD s hdK.d).ys=nbM links b s):=by
 refine Fb ?_
 intro I hro hI
 refine J8 ?_
 refine RV.op (Ym (K:=hdK) (n) (n) (hdK.d) rfl rfl rfl rfl (fun A1=>?_))
 refine KV.heap (fun w h=>h.newBig (F:=hdF) n hdK.d (fun w=>OS.emp w)) ?_
 refine J12 ?_
 refine E2 ?_
 refine CV.loop2 (fun j (hs:List Hd)=>j≤links.length∧hs.length=n∧ ∀s,s<n→(hs.getD s hdK.d).ys=nbM (links.take j) b s) (fun j _=>links.length-j) (fun j _=>[(2,.bool b),(7,.slice A1 n n),(12,.slice A links.length c),(13,.int .i64 links.length),(14,.int .i64 j)]) (fun _ hs=>Hp I w [OS 32 hdK A1 n hs,Big hdF hs]) 0 (List.replicate n hdK.d) ⟨Nat.zero_le _,by simp,fun s hs=>by simp[List.getD,hs,nbM];rfl⟩ (sb rfl) (fun _ h=>h) ?_
 intro j hs hj
 refine J2 ?_
 refine Jlt rfl rfl (fun hlt2=>?_) (fun hlt2=>?_)
 refine J12 ?_
 refine RV.op (Ya (fun b4_2=>?_))
 refine Zw 2 [_,_] #[_,_] ?_
 refine J7 ?_
 refine KV.cases 18 rfl (fun cc1=>?_) (fun cc1=>?_)
 refine J1 ?_
 obtain⟨s,hs2⟩:=Int.eq_ofNat_of_zero_le (hok j (by omega)).2.1
 have hs3:=(hok j (by omega)).2.2
 rw[hs2]
 rw[hs2] at hs3
 have hdl:=nb_len (hj.2.2 s (by omega))
 refine An (Hp I w [Blk b4_2 (.cells #[.int .i64 (links.getD j linkK.d).con,.int .i64 s] 138 (0,0))]) 14 ?_
 refine W 0 ?_
 refine W 1 ?_
 refine W 2 ?_
 refine W 3 ?_
 refine W 4 ?_
 refine W 5 ?_
 refine W 8 ?_
 refine W 9 ?_
 refine V2 6 10 ?_ ?_
 refine OV.step gno (Ti (fun w h=>h.os 0 rfl) rfl rfl (by omega) _ rfl (by omega)) rfl ?_
 refine Wn ?_
 refine V2 7 10 ?_ ?_
 refine OV.step gno (Tc rfl (fun w h=>(h.os 0 rfl).cell0 (by omega) rfl)) rfl ?_
 refine Wn ?_
 refine V1 10 ?_
 refine OV.buildSlice (K:=(intK .i64)) ([_]) rfl (Bs32_1_0 _) rfl rfl (by omega) gno rfl (fun b6_10=>?_)
 refine Wn ?_
 refine V1 11 ?_
 refine OV.heap (fun w h=>h.focus (k:=1) (m:=s) hdK.d rfl (by omega)) ?_
 refine Ye 1 rfl rfl rfl rfl rfl (fun w h=>h.os 3 rfl) (by simp only[List.length_cons,List.length_nil];omega) (fun A2 c2=>?_)
 refine Wn ?_
 refine V1 12 ?_
 refine OV.step gno (Ti (fun w h=>h.os 0 rfl) rfl rfl (by omega) _ rfl (by omega)) rfl ?_
 refine Wn ?_
 refine V1 13 ?_
 refine Yx 0 (s) (⟨A2,c2,_⟩) (j:=0) [_] rfl rfl rfl rfl rfl (by omega) rfl ?_
 refine K4 [0,0,0,1] rfl ?_
 refine KV.heap (fun w h=>Hp.unfocus (L:=[_,_,_]) (k:=1) (hs:=hs) (m:=s) (h':=⟨A2,c2,_⟩) h rfl (by omega)) ?_
 refine Wn ?_
 refine Vd ?_
 refine J7 ?_
 refine E2 ?_
 refine KV.loop2 (y:=hs) (j+1) (hs.set s ⟨A2,c2,_⟩) ⟨by omega,by rw[List.length_set];exact hj.2.1,nb_step (by omega) hj.2.2 hj.2.1 (by omega) (by rw[cc1];exact hs2) (by rw[cc1];rfl)⟩ (by omega) (sb rfl) (fun _ h=>h)
 refine OV.buildSlice (K:=(intK .i64)) ([_]) rfl (Bs32_1_0 _) rfl rfl (by omega) gno rfl (fun b6_10=>?_)
 refine Wn ?_
 refine V1 7 ?_
 refine OV.step gno (Tc rfl (fun w h=>(h.os 0 rfl).cell0 (by omega) rfl)) rfl ?_
 refine Wn ?_
 refine V1 11 ?_
 refine OV.heap (fun w h=>h.focus (k:=1) (m:=s) hdK.d rfl (by omega)) ?_
 refine Ye 1 rfl rfl rfl rfl rfl (fun w h=>h.os 3 rfl) (by simp only[List.length_cons,List.length_nil];omega) (fun A2 c2=>?_)
 refine Wn ?_
 refine V1 12 ?_
 refine OV.step gno (Ti (fun w h=>h.os 0 rfl) rfl rfl (by omega) _ rfl (by omega)) rfl ?_
 refine Wn ?_
 refine V1 13 ?_
 refine Yx 0 (s) (⟨A2,c2,_⟩) (j:=0) [_] rfl rfl rfl rfl rfl (by omega) rfl ?_
 refine K4 [0,0,0,1] rfl ?_
 refine KV.heap (fun w h=>Hp.unfocus (L:=[_,_,_]) (k:=1) (hs:=hs) (m:=s) (h':=⟨A2,c2,_⟩) h rfl (by omega)) ?_
 refine Wn ?_
 refine Vd ?_
 refine J7 ?_
 refine E2 ?_
 refine KV.loop2 (y:=hs) (j+1) (hs.set s ⟨A2,c2,_⟩) ⟨by omega,by rw[List.length_set];exact hj.2.1,nb_step (by omega) hj.2.2 hj.2.1 (by omega) (by rw[cc1];exact hs2) (by rw[cc1];rfl)⟩ (by omega) (sb rfl) (fun _ h=>h)
 refine OV.buildSlice (K:=(intK .i64)) ([_]) rfl (Bs32_1_0 _) rfl rfl (by omega) gno rfl (fun b6_10=>?_)
 refine Wn ?_
 refine V1 6 ?_
 refine OV.step gno (Ti (fun w h=>h.os 0 rfl) rfl rfl (by omega) _ rfl (by omega)) rfl ?_
 refine Wn ?_
 refine V1 7 ?_
 refine OV.step gno (Tc rfl (fun w h=>(h.os 0 rfl).cell0 (by omega) rfl)) rfl ?_
 refine Wn ?_
 refine V1 11 ?_
 refine OV.heap (fun w h=>h.focus (k:=1) (m:=s) hdK.d rfl (by omega)) ?_
 refine Ye 1 rfl rfl rfl rfl rfl (fun w h=>h.os 3 rfl) (by simp only[List.length_cons,List.length_nil];omega) (fun A2 c2=>?_)
 refine Wn ?_
 refine V1 12 ?_
 refine OV.step gno (Ti (fun w h=>h.os 0 rfl) rfl rfl (by omega) _ rfl (by omega)) rfl ?_
 refine Wn ?_
 refine V1 13 ?_
 refine Yx 0 (s) (⟨A2,c2,_⟩) (j:=0) [_] rfl rfl rfl rfl rfl (by omega) rfl ?_
 refine K4 [0,0,0,1] rfl ?_
 refine KV.heap (fun w h=>Hp.unfocus (L:=[_,_,_]) (k:=1) (hs:=hs) (m:=s) (h':=⟨A2,c2,_⟩) h rfl (by omega)) ?_
 refine Wn ?_
 refine Vd ?_
 refine J7 ?_
 refine E2 ?_
 refine KV.loop2 (y:=hs) (j+1) (hs.set s ⟨A2,c2,_⟩) ⟨by omega,by rw[List.length_set];exact hj.2.1,nb_step (by omega) hj.2.2 hj.2.1 (by omega) (by rw[cc1];exact hs2) (by rw[cc1];rfl)⟩ (by omega) (sb rfl) (fun _ h=>h)
 refine J1 ?_
 obtain⟨s,hs2⟩:=Int.eq_ofNat_of_zero_le (hok j (by omega)).1.1
 have hs3:=(hok j (by omega)).1.2
 rw[hs2]
 rw[hs2] at hs3
 have hdl:=nb_len (hj.2.2 s (by omega))
 refine An (Hp I w [Blk b4_2 (.cells #[.int .i64 s,.int .i64 (links.getD j linkK.d).sup] 138 (0,0))]) 14 ?_
 refine W 0 ?_
 refine W 1 ?_
 refine W 2 ?_
 refine W 3 ?_
 refine W 4 ?_
 refine W 5 ?_
 refine W 8 ?_
 refine W 9 ?_
 refine V2 6 10 ?_ ?_
 refine OV.step gno (Ti (fun w h=>h.os 0 rfl) rfl rfl (by omega) _ rfl (by omega)) rfl ?_
 refine Wn ?_
 refine V2 7 10 ?_ ?_
 refine OV.step gno (Tc rfl (fun w h=>(h.os 0 rfl).cell0 (by omega) rfl)) rfl ?_
 refine Wn ?_
 refine V1 10 ?_
 refine OV.buildSlice (K:=(intK .i64)) ([_]) rfl (Bs32_1_0 _) rfl rfl (by omega) gno rfl (fun b7_10=>?_)
 refine Wn ?_
 refine V1 11 ?_
 refine OV.heap (fun w h=>h.focus (k:=1) (m:=s) hdK.d rfl (by omega)) ?_
 refine Ye 1 rfl rfl rfl rfl rfl (fun w h=>h.os 3 rfl) (by simp only[List.length_cons,List.length_nil];omega) (fun A2 c2=>?_)
 refine Wn ?_
 refine V1 12 ?_
 refine OV.step gno (Ti (fun w h=>h.os 0 rfl) rfl rfl (by omega) _ rfl (by omega)) rfl ?_
 refine Wn ?_
 refine V1 13 ?_
 refine Yx 0 (s) (⟨A2,c2,_⟩) (j:=0) [_] rfl rfl rfl rfl rfl (by omega) rfl ?_
 refine K4 [0,0,0,1] rfl ?_
 refine KV.heap (fun w h=>Hp.unfocus (L:=[_,_,_]) (k:=1) (hs:=hs) (m:=s) (h':=⟨A2,c2,_⟩) h rfl (by omega)) ?_
 refine Wn ?_
 refine Vd ?_
 refine J7 ?_
 refine E2 ?_
 refine KV.loop2 (y:=hs) (j+1) (hs.set s ⟨A2,c2,_⟩) ⟨by omega,by rw[List.length_set];exact hj.2.1,nb_step (by omega) hj.2.2 hj.2.1 (by omega) (by rw[cc1];exact hs2) (by rw[cc1];rfl)⟩ (by omega) (sb rfl) (fun _ h=>h)
 refine OV.buildSlice (K:=(intK .i64)) ([_]) rfl (Bs32_1_0 _) rfl rfl (by omega) gno rfl (fun b7_10=>?_)
 refine Wn ?_
 refine V1 7 ?_
 refine OV.step gno (Tc rfl (fun w h=>(h.os 0 rfl).cell0 (by omega) rfl)) rfl ?_
 refine Wn ?_
 refine V1 11 ?_
 refine OV.heap (fun w h=>h.focus (k:=1) (m:=s) hdK.d rfl (by omega)) ?_
 refine Ye 1 rfl rfl rfl rfl rfl (fun w h=>h.os 3 rfl) (by simp only[List.length_cons,List.length_nil];omega) (fun A2 c2=>?_)
 refine Wn ?_
 refine V1 12 ?_
 refine OV.step gno (Ti (fun w h=>h.os 0 rfl) rfl rfl (by omega) _ rfl (by omega)) rfl ?_
 refine Wn ?_
 refine V1 13 ?_
 refine Yx 0 (s) (⟨A2,c2,_⟩) (j:=0) [_] rfl rfl rfl rfl rfl (by omega) rfl ?_
 refine K4 [0,0,0,1] rfl ?_
 refine KV.heap (fun w h=>Hp.unfocus (L:=[_,_,_]) (k:=1) (hs:=hs) (m:=s) (h':=⟨A2,c2,_⟩) h rfl (by omega)) ?_
 refine Wn ?_
 refine Vd ?_
 refine J7 ?_
 refine E2 ?_
 refine KV.loop2 (y:=hs) (j+1) (hs.set s ⟨A2,c2,_⟩) ⟨by omega,by rw[List.length_set];exact hj.2.1,nb_step (by omega) hj.2.2 hj.2.1 (by omega) (by rw[cc1];exact hs2) (by rw[cc1];rfl)⟩ (by omega) (sb rfl) (fun _ h=>h)
 refine OV.buildSlice (K:=(intK .i64)) ([_]) rfl (Bs32_1_0 _) rfl rfl (by omega) gno rfl (fun b7_10=>?_)
 refine Wn ?_
 refine V1 6 ?_
 refine OV.step gno (Ti (fun w h=>h.os 0 rfl) rfl rfl (by omega) _ rfl (by omega)) rfl ?_
 refine Wn ?_
 refine V1 7 ?_
 refine OV.step gno (Tc rfl (fun w h=>(h.os 0 rfl).cell0 (by omega) rfl)) rfl ?_
 refine Wn ?_
 refine V1 11 ?_
 refine OV.heap (fun w h=>h.focus (k:=1) (m:=s) hdK.d rfl (by omega)) ?_
 refine Ye 1 rfl rfl rfl rfl rfl (fun w h=>h.os 3 rfl) (by simp only[List.length_cons,List.length_nil];omega) (fun A2 c2=>?_)
 refine Wn ?_
 refine V1 12 ?_
 refine OV.step gno (Ti (fun w h=>h.os 0 rfl) rfl rfl (by omega) _ rfl (by omega)) rfl ?_
 refine Wn ?_
 refine V1 13 ?_
 refine Yx 0 (s) (⟨A2,c2,_⟩) (j:=0) [_] rfl rfl rfl rfl rfl (by omega) rfl ?_
 refine K4 [0,0,0,1] rfl ?_
 refine KV.heap (fun w h=>Hp.unfocus (L:=[_,_,_]) (k:=1) (hs:=hs) (m:=s) (h':=⟨A2,c2,_⟩) h rfl (by omega)) ?_
 refine Wn ?_
 refine Vd ?_
 refine J7 ?_
 refine E2 ?_
 refine KV.loop2 (y:=hs) (j+1) (hs.set s ⟨A2,c2,_⟩) ⟨by omega,by rw[List.length_set];exact hj.2.1,nb_step (by omega) hj.2.2 hj.2.1 (by omega) (by rw[cc1];exact hs2) (by rw[cc1];rfl)⟩ (by omega) (sb rfl) (fun _ h=>h)
 obtain rfl:j=links.length:=by omega
 rw[List.take_length] at hj
 refine J15 ?_
 refine J1 ?_
 refine E2 ?_
 exact Rb rfl rfl ⟨_,_,hs,rfl,rfl,hj.2.1,hj.2.2⟩
theorem sequence_fn {A:Option Addr} {c:Nat} {links:List Link} (n:Nat) {w:World} (hr:RS w linkK A links) (hl:links.length≤1024) (hn:n≤128) (hok: ∀i,i<links.length→okL n (links.getD i linkK.d)):Fx Tryz.prog 110 [.int .i64 n,.slice A links.length c] w [] no (fun v L=> ∃A2 c2,v= .slice A2 (seqM n links).length c2∧L=[OS 3 (intK .i64) A2 c2 (seqM n links)]):=by
 refine Fb ?_
 intro I hro hI
 refine J9 ?_
 refine RV.op (Yc [] (F:=[]) rfl rfl (fun w h=>neighbors_fn n true (h.rs hr (fun _=>hI _)) hl hn hok) (fun v L' hp=>?_))
 obtain⟨A1,c1,hs,rfl,rfl,hhl,hnb⟩:=hp
 refine J6 ?_
 refine RV.op (OV.make (K:=intK .i64) (n) (n) (0) Tryz.underlying32 I3.h rfl rfl rfl rfl rfl (by omega) (by omega) (by omega) gno rfl (fun A2=>?_))
 refine J12 ?_
 refine E3 ?_
 refine CV.loop2 (fun j (ms:List Int)=>j≤links.length∧ms.length=n∧ ∀i,i<n→ms.getD i 0=msM (links.take j) i) (fun j _=>links.length-j) (fun j _=>[(0,.int .i64 n),(5,.slice A1 n c1),(6,.slice A2 n n),(18,.slice A links.length c),(19,.int .i64 links.length),(20,.int .i64 j)]) (fun _ ms=>Hp I w [OS 32 hdK A1 c1 hs,Big hdF hs,OS 3 (intK .i64) A2 n ms]) 0 (List.replicate n 0) ⟨Nat.zero_le _,by simp,fun s hs=>by simp[List.getD,hs,msM]⟩ (sb rfl) (fun _ h=>h) ?_
 intro j ms hj
 refine J2 ?_
 refine Jlt rfl rfl (fun hlt2=>?_) (fun hlt2=>?_)
 refine J10 ?_
 refine Jr (Ti (fun w h=>h.rs hr (fun _=>hI _)) rfl rfl (by first|rfl|omega|(rw[decs_length,List.length_set];omega)) _ rfl (by first|omega|(rw[decs_length,List.length_set];omega))) ?_
 refine Jr (Tw rfl (fun w h=>(h.rs hr (fun _=>hI _)).cells (by first|omega|(rw[decs_length,List.length_set];omega)))) ?_
 refine RV.op (Ya (fun b5_2=>?_))
 refine Zw 3 [_,_] #[_,_] ?_
 refine J2 ?_
 obtain⟨i,hi2⟩:=Int.eq_ofNat_of_zero_le (hok j (by omega)).1.1
 have hi3:=(hok j (by omega)).1.2
 rw[hi2]
 rw[hi2] at hi3
 have hb2:=msM_take_le links i j
 rw[←hj.2.2 i (by omega)] at hb2
 have hb3:ms.getD i (intK .i64).d=ms.getD i 0:=rfl
 rw[←hb3] at hb2
 refine J3 ?_
 refine Jl 3 rfl rfl rfl ?_
 refine Jr (Ti (fun w h=>h.os 2 rfl) rfl rfl (by first|rfl|omega|(rw[decs_length,List.length_set];omega)) _ rfl (by first|omega|(rw[decs_length,List.length_set];omega))) ?_
 refine J2 ?_
 refine Jr (Ti (fun w h=>h.os 2 rfl) rfl rfl (by first|rfl|omega|(rw[decs_length,List.length_set];omega)) _ rfl (by first|omega|(rw[decs_length,List.length_set];omega))) ?_
 refine RV.op (Yx 2 (i) (_) (j:=0) [_] rfl rfl rfl rfl rfl (by omega) rfl ?_)
 refine J8 ?_
 refine E3 ?_
 refine KV.loop2 (y:=ms) (j+1) (ms.set i (ms.getD i 0+1)) ⟨by omega,by rw[List.length_set];exact hj.2.1,ms_step (by omega) hj.2.2 hj.2.1 (by omega) hi2⟩ (by omega) (sb rfl) (fun _ h=>h)
 obtain rfl:j=links.length:=by omega
 rw[List.take_length] at hj
 refine J12 ?_
 refine RV.op (OV.make (K:=intK .i64) (0) (n) (0) Tryz.underlying32 I3.h rfl rfl rfl rfl rfl (by omega) (by omega) (by omega) gno rfl (fun A3=>?_))
 refine J4 ?_
 refine E4 ?_
 obtain rfl:ms=ms0 n links:=ms0_of hj.2.1 hj.2.2
 refine CV.loop2 (fun(ms:List Int) (o:Hd)=>ms.length=n∧nnn ms n+o.ys.length≤n∧(∀i,i<n→ms.getD i 0≤1024∧ -(2000* (o.ys.length:Int))≤ms.getD i 0)∧seqRun (nbM links true) n (nnn ms n) ms o.ys=seqM n links) (fun ms _=>nnn ms n) (fun ms o=>[(5,.slice A1 n c1),(6,.slice A2 n n),(9,.slice o.A o.ys.length o.c)]) (fun ms o=>Hp I w [OS 32 hdK A1 c1 hs,Big hdF hs,OS 3 (intK .i64) A2 n ms,OS 3 (intK .i64) o.A o.c o.ys]) (ms0 n links) ⟨A3,n,[]⟩ ⟨hj.2.1,by have:=nnn_bound (ms0 n links) n;simp;omega,fun i hi=>by rw[hj.2.2 i hi];have:=msM_le links i;simp;omega,rfl⟩ (sb rfl) (fun _ h=>h) ?_
 intro ms o hm
 refine J4 ?_
 refine RV.op (Yc [] (F:=[_,_,_,_]) rfl rfl (fun w h=>index_fn 0 (h.os 2 rfl) (by omega) hm.1.symm) (fun v L' hp=>?_))
 obtain⟨rfl,rfl⟩:=hp
 refine J7 ?_
 refine Jlt rfl rfl (fun hq=>?_) (fun hq=>?_)
 have hq2:idxM 0 ms ms.length= -1:=by by_cases e:idxM 0 ms ms.length= -1;exact e;obtain⟨i,e1,_⟩:=idxM_some e;omega
 refine J14 ?_
 refine K1 [3] rfl ?_
 rw[hm.1] at hq2
 rw[←hm.2.2.2,seqRun_end hq2]
 exact Rb rfl rfl ⟨_,_,rfl,rfl⟩
 obtain⟨i,e1,e2,e3,e4⟩:=idxM_some (x:=0) (ms:=ms) (k:=ms.length) (by omega)
 rw[e1]
 rw[hm.1] at e1 e2
 have hnl:=hl
 have hyl:(hs.getD i hdK.d).ys.length≤1024:=by rw[hnb i e2];exact Nat.le_trans (nbM_length _ _ _) hl
 have hole:o.ys.length≤128:=by have:=hm.2.1;omega
 refine J9 ?_
 refine Jr (Ti (fun w h=>h.os 2 rfl) rfl rfl (by first|rfl|omega|(rw[decs_length,List.length_set];omega)) _ rfl (by first|omega|(rw[decs_length,List.length_set];omega))) ?_
 refine RV.op (Yx 2 (i) (_) (j:=0) [_] rfl rfl rfl rfl rfl (by omega) rfl ?_)
 refine J6 ?_
 refine RV.op (OV.buildSlice (K:=(intK .i64)) ([_]) rfl (Bs32_1_0 _) rfl rfl (by omega) gno rfl (fun b13_2=>?_))
 refine RV.op (Ye 3 rfl rfl rfl rfl rfl (fun w h=>h.os 4 rfl) (by simp only[List.length_cons,List.length_nil];omega) (fun b13_3a b13_3c=>?_))
 refine J7 ?_
 refine Jr (Ti (fun w h=>h.os 0 rfl) rfl rfl (by first|rfl|omega|(rw[decs_length,List.length_set];omega)) _ rfl (by first|omega|(rw[decs_length,List.length_set];omega))) ?_
 refine J6 ?_
 refine E4 ?_
 refine CV.loopI (α:=Nat) (fun k=>k≤(hs.getD i hdK.d).ys.length) (fun k=>(hs.getD i hdK.d).ys.length-k) (fun k=>[(5,.slice A1 n c1),(6,.slice A2 n n),(9,.slice b13_3a (o.ys++[(i:Int)]).length b13_3c),(49,.slice (hs.getD i hdK.d).A (hs.getD i hdK.d).ys.length (hs.getD i hdK.d).c),(50,.int .i64 (hs.getD i hdK.d).ys.length),(51,.int .i64 k)]) (fun k=>Hp I w [OS 32 hdK A1 c1 hs,Big hdF hs,OS 3 (intK .i64) A2 n (decs (ms.set i (-1)) (hs.getD i hdK.d).ys k),OS 3 (intK .i64) b13_3a b13_3c (o.ys++[(i:Int)])]) 0 (Nat.zero_le _) (sb rfl) (fun _ h=>h) ?_
 intro k hk
 refine J2 ?_
 refine Jlt rfl rfl (fun hlk=>?_) (fun hlk=>?_)
 refine J10 ?_
 refine Jr (Ti (fun w h=>(h.bigOS (k:=1) (m:=i) (G:=fun b w=>RS w (intK .i64) b.A b.ys) hdK.d rfl (by omega) hdRS)) rfl rfl (by first|rfl|omega|(rw[decs_length,List.length_set];omega)) _ rfl (by first|omega|(rw[decs_length,List.length_set];omega))) ?_
 refine Jr (Tc rfl (fun w h=>(h.bigOS (k:=1) (m:=i) (G:=fun b w=>RS w (intK .i64) b.A b.ys) hdK.d rfl (by omega) hdRS).cell0 (by omega) rfl)) ?_
 refine J3 ?_
 have hel:=nbM_ok hok true i k (by rw[←hnb i e2];omega)
 rw[←hnb i e2] at hel
 obtain⟨e,he2⟩:=Int.eq_ofNat_of_zero_le hel.1
 have he3:((hs.getD i hdK.d).ys.getD k (intK .i64).d)=(e:Int):=he2
 rw[he3]
 rw[he2] at hel
 have hb2:=decs_getD_le (ms.set i (-1)) (hs.getD i hdK.d).ys k e
 have hb3:=(hm.2.2.1 e (by omega))
 have hb4:=set_bd (ms:=ms) (i:=i) (e:=e) hb3
 have hb5:(decs (ms.set i (-1)) (hs.getD i hdK.d).ys k).getD e (intK .i64).d=(decs (ms.set i (-1)) (hs.getD i hdK.d).ys k).getD e 0:=rfl
 rw[←hb5] at hb2
 refine J3 ?_
 refine Jr (Ti (fun w h=>h.os 2 rfl) rfl rfl (by first|rfl|omega|(rw[decs_length,List.length_set];omega)) _ rfl (by first|omega|(rw[decs_length,List.length_set];omega))) ?_
 refine Jr (Tc rfl (fun w h=>(h.os 2 rfl).cell0 (by rw[decs_length,List.length_set];omega) rfl)) ?_
 refine J1 ?_
 refine Jr (Ti (fun w h=>h.os 2 rfl) rfl rfl (by first|rfl|omega|(rw[decs_length,List.length_set];omega)) _ rfl (by first|omega|(rw[decs_length,List.length_set];omega))) ?_
 refine RV.op (Yx 2 (e) (_) (j:=0) [_] rfl rfl rfl rfl rfl (by(first|omega|(rw[decs_length,List.length_set];omega))) rfl ?_)
 refine J8 ?_
 refine E4 ?_
 refine KV.loopI (k+1) (by omega) (by omega) (sb rfl) (fun _ h=>by rw[decs,dec1,he2,Int.toNat_natCast];exact h)
 obtain rfl:k=(hs.getD i hdK.d).ys.length:=by omega
 refine J10 ?_
 refine E4 ?_
 refine KV.loop2 (y:=o) (decs (ms.set i (-1)) (hs.getD i hdK.d).ys (hs.getD i hdK.d).ys.length) ⟨b13_3a,b13_3c,o.ys++[(i:Int)]⟩ ?_ ?_ (sb rfl) (fun _ h=>h)
 exact seq_inv hm hnl e1 e2 e3 (hnb i e2)
 exact round_lt (nb:=nbM links true) hm.1 e2 e3 _ _
theorem check_fn {A:Option Addr} {c:Nat} {links:List Link} (n:Nat) {w:World} (hr:RS w linkK A links) (hl:links.length≤1000000):Fx Tryz.prog 148 [.int .i64 n,.slice A links.length c] w [] no (fun v L=>v= .int .i64 (chkM n links)∧L=[]):=by
 refine Fb ?_
 intro I hro hI
 refine J10 ?_
 refine RV.op (Yc [] (F:=[]) rfl rfl (fun w h=>checkLinks_fn n (h.rs hr (fun _=>hI _)) hl) (fun v L' hp=>?_))
 obtain⟨rfl,rfl⟩:=hp
 refine J6 ?_
 refine Jne rfl rfl (fun hc=>?_) (fun hc=>?_)
 refine J11 ?_
 refine E0 ?_
 exact Rb rfl rfl ⟨by rw[chkM,if_pos hc],rfl⟩
 have hcl:=clM_zero (Decidable.not_not.1 hc)
 refine J10 ?_
 refine RV.op (Yc [] (F:=[]) rfl rfl (fun w h=>sequence_fn n (h.rs hr (fun _=>hI _)) hcl.2.1 hcl.1 hcl.2.2) (fun v L' hp=>?_))
 obtain⟨A2,c2,rfl,rfl⟩:=hp
 refine J2 ?_
 refine Jne rfl rfl (fun hs=>?_) (fun hs=>?_)
 refine J10 ?_
 refine E0 ?_
 exact Rb rfl rfl ⟨by rw[chkM,if_neg hc,if_pos hs],rfl⟩
 refine J11 ?_
 refine E0 ?_
 exact Rb rfl rfl ⟨by rw[chkM,if_neg hc,if_neg hs],rfl⟩
end Go.Proofs.YtkofjhglgoojiaaGreatDoor.Rl
