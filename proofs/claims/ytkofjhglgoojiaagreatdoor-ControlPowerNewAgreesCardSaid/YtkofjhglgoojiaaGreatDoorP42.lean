/-
  Joined.
-/
import Derived.Test.YtkofjhglgoojiaaGreatDoorP41
import Derived.Test.YtkofjhglgoojiaaGreatDoorP26
set_option linter.unusedSimpArgs false
set_option linter.unusedVariables false
namespace Go.Proofs.YtkofjhglgoojiaaGreatDoor.Dv
set_option maxRecDepth 100000
set_option maxHeartbeats 20000000
open Go.Tk Go.Sv Go.Drv
attribute [local irreducible] KV SV OV Step Code.wp wpList Exit.then Exit.inBlock Blk OS Big Bun
theorem ln_pre {y:LH}: ∀(j:Nat) (v:Value),(thK.f y.h)[j]?=some v→(lnK.f y)[j]?=some v:=fun j v h=>by
 have e:lnK.f y=thK.f y.h++[.string (bs y.to)]:=rfl
 rw[e,List.getElem?_append_left (List.getElem?_eq_some_iff.1 h).1];exact h
theorem rparse_fn (s:Bs) (hs:s.length≤900000) {w:World}:Fx Tryz.prog 37 [.string (bs s)] w [] no (fun v L=> ∃d:DH,v= .tuple #[.agg #[.string (bs d.name),.slice d.sA d.ss.length d.sc,.slice d.tA d.hs.length d.tc],.int .i64 (parseM s).1]∧d.d=(parseM s).2∧L=dL d):=by
 refine Fb ?_
 intro I hro hI
 refine J2 ?_
 refine RV.op (OV.alloc #[.string (Sv.bs []),.slice none 0 0,.slice none 0 0] I66.h rfl gno rfl (fun d=>?_))
 refine J5 ?_
 refine Jr (Step.build rfl (Bd219_)) ?_
 refine RV.op (Yb #[_,_,_,_,_] rfl rfl (fun q=>?_))
 refine J4 ?_
 refine KV.heap (fun w h=>((h.nilOS (e:=9) (K:=strK)).nilOS (e:=227) (K:=lnK)).newBig (F:=opL) 0 ⟨thD,[]⟩ fun w=>OS.emp w) ?_
 refine J2 ?_
 refine RV.op (Yc [] (F:=[_,_,_,_,_]) rfl rfl (fun w h=>rlines_fn s (by omega)) (fun v L' hp=>?_))
 obtain⟨lA,lc,rfl,rfl⟩:=hp
 obtain⟨LS,hLS⟩: ∃LS,LS=splitNL s:=⟨_,rfl⟩
 rw[←hLS]
 have hLl:LS.length≤s.length+1:=by rw[hLS];exact split_len s
 have hLm: ∀l∈LS,l.length≤s.length:=by rw[hLS];exact split_mem s
 refine J10 ?_
 refine E6 ?_
 refine CV.loop2 (fun(i:Nat) (X:RH)=>i≤LS.length∧runM ps0 (LS.take i)=some X.ps∧X.ss.length≤i∧X.al.length≤i) (fun(i:Nat) (X:RH)=>LS.length-i) (fun(i:Nat) (X:RH)=>[(2,.pointer (some ⟨d,0,none⟩)),(4,.pointer (some ⟨q,0,none⟩)),(5,.slice lA LS.length lc),(6,.int .i64 i)]) (fun(i:Nat) (X:RH)=>Hp I w [Blk d (.cells #[.string (bs []),.slice none 0 0,.slice none 0 0] 66 (0,0)),Blk q (.cells #[.string (bs X.name),.slice X.sA X.ss.length X.sc,.slice none 0 0,.slice X.aA X.al.length X.ac,.bool X.named] 219 (0,0)),OS 9 strK X.sA X.sc X.ss,OS 227 lnK X.aA X.ac X.al,Big opL X.al,OS 9 strK lA lc LS]) (0) (rh0) ⟨Nat.zero_le _,rfl,Nat.le_refl _,Nat.le_refl _⟩ (sb rfl) (fun _ h=>h) ?_
 intro i X hinv
 refine J6 ?_
 refine Jlt rfl rfl (fun hi=>?_) (fun hi=>?_)
 refine J8 ?_
 have hll:(LS.getD i strK.d).length≤s.length:=hLm _ (by simp[List.getD,show i<LS.length by omega])
 refine J5 ?_
 refine RV.op (Yc [] (F:=[_,_,_,_,_,_]) rfl rfl (fun w h=>rtokens_fn (LS.getD i strK.d) (by omega)) (fun v L' hp=>?_))
 rcases hp with ⟨ts,A1,c1,htk,htl,rfl,rfl⟩|⟨htk,rfl,rfl⟩
 refine J14 ?_
 refine Jgt rfl rfl (fun hl0=>?_) (fun hl0=>?_)
 refine J3 ?_
 refine RV.op (Yc [1,1,1,1,2] (F:=[_,_]) rfl rfl (fun w h=>radd_fn X (tk_ok htk) (by omega) (by omega) (by omega) (by omega)) (fun v L' hp=>?_))
 rcases hp with ⟨Y,hlm,hgr,rfl,rfl⟩|⟨hlm,rfl,rfl⟩
 unfold rdL
 have hgs:=hgr.s
 have hga:=hgr.a
 refine J15 ?_
 refine K6 [0,1,1,1,1,0] rfl ?_
 exact KV.loop2 (x:=i) (y:=X) (i+1) (Y) ⟨by omega,runR_ok hinv.2.1 (by omega) (by unfold lnM;rw[htk];exact hlm),by omega,by omega⟩ (by omega) (sb rfl) (fun _ h=>h)
 simp only[List.append_nil]
 refine J8 ?_
 refine Jr (Step.build rfl (Bd66_)) ?_
 refine Zw 0 [_,_,_] #[_,_,_] ?_
 refine J9 ?_
 refine E1 ?_
 have hpm:=parse_none (s:=s) (by rw[←hLS];exact runR_bad hinv.2.1 (by omega) (by unfold lnM;rw[htk];first|rfl|exact hlm))
 exact KV.retC2 [_,_,_] rfl rfl rfl Tryz.underlying66 rfl I66.h rfl (fun w h=>h.cells 0 rfl) _ (fun _ h=>Hp.dL0 (h.sel [] rfl)) ⟨dh0,by rw[hpm];rfl,by rw[hpm];rfl,rfl⟩
 refine J15 ?_
 refine J4 ?_
 refine E6 ?_
 exact KV.loop2 (x:=i) (y:=X) (i+1) (X) ⟨by omega,runR_ok hinv.2.1 (by omega) (by unfold lnM;rw[htk,List.eq_nil_of_length_eq_zero (show ts.length=0 by omega)];rfl),by omega,by omega⟩ (by omega) (sb rfl) (fun _ h=>h)
 simp only[List.append_nil]
 refine J15 ?_
 refine J1 ?_
 refine RV.op (OV.skipU rfl rfl ?_)
 refine RV.op (OV.skipU rfl rfl ?_)
 refine RV.op (OV.skipU rfl rfl ?_)
 refine RV.op (OV.skipU rfl rfl ?_)
 refine J7 ?_
 refine Jr (Step.build rfl (Bd66_)) ?_
 refine Zw 0 [_,_,_] #[_,_,_] ?_
 refine J9 ?_
 refine E1 ?_
 have hpm:=parse_none (s:=s) (by rw[←hLS];exact runR_bad hinv.2.1 (by omega) (by unfold lnM;rw[htk];first|rfl|exact hlm))
 exact KV.retC2 [_,_,_] rfl rfl rfl Tryz.underlying66 rfl I66.h rfl (fun w h=>h.cells 0 rfl) _ (fun _ h=>Hp.dL0 (h.sel [] rfl)) ⟨dh0,by rw[hpm];rfl,by rw[hpm];rfl,rfl⟩
 refine J10 ?_
 obtain rfl:i=LS.length:=by omega
 have hrun:=hinv.2.1
 rw[List.take_length,hLS] at hrun
 have hpar:=parse_some hrun
 refine J2 ?_
 refine Jp rfl ?_
 refine J5 ?_
 refine KV.cases 49 rfl (fun cc1=>?_) (fun cc1=>?_)
 have hnd:=neg_t cc1
 refine J3 ?_
 refine Jr (Step.build rfl (Bd66_)) ?_
 refine Zw 0 [_,_,_] #[_,_,_] ?_
 refine J5 ?_
 refine E1 ?_
 have hpm:=hpar.trans (fin_un hnd)
 exact KV.retC2 [_,_,_] rfl rfl rfl Tryz.underlying66 rfl I66.h rfl (fun w h=>h.cells 0 rfl) _ (fun _ h=>Hp.dL0 (h.sel [] rfl)) ⟨dh0,by rw[hpm];rfl,by rw[hpm];rfl,rfl⟩
 have hnd:=neg_f cc1
 refine J7 ?_
 refine Jp rfl ?_
 refine J3 ?_
 refine RV.op (Yc [] (F:=[_,_,_,_,_,_]) rfl rfl (fun w h=>twice_fn (h.os 2 rfl) rfl (by omega)) (fun v L' hp=>?_))
 obtain⟨rfl,rfl⟩:=hp
 by_cases hdup: ¬X.ss.Nodup
 rw[decide_eq_true hdup]
 refine J5 ?_
 refine Jr (Step.build rfl (Bd66_)) ?_
 refine Zw 0 [_,_,_] #[_,_,_] ?_
 refine J5 ?_
 refine E1 ?_
 have hpm:=hpar.trans (fin_dup hnd hdup)
 exact KV.retC2 [_,_,_] rfl rfl rfl Tryz.underlying66 rfl I66.h rfl (fun w h=>h.cells 0 rfl) _ (fun _ h=>Hp.dL0 (h.sel [] rfl)) ⟨dh0,by rw[hpm];rfl,by rw[hpm];rfl,rfl⟩
 rw[decide_eq_false hdup]
 refine J7 ?_
 refine KV.heap (fun w h=>h.nilOS (e:=191) (K:=thK)) ?_
 refine J5 ?_
 refine K6 [0,0,0,0,0,1] rfl ?_
 refine CV.loop2 (fun(j:Nat) (K:KG)=>LkR X K j) (fun(j:Nat) (K:KG)=>X.al.length-j) (fun(j:Nat) (K:KG)=>[(2,.pointer (some ⟨d,0,none⟩)),(4,.pointer (some ⟨q,0,none⟩)),(9,.int .i64 j)]) (fun(j:Nat) (K:KG)=>Hp I w [Blk d (.cells #[.string (bs []),.slice none 0 0,.slice none 0 0] 66 (0,0)),Blk q (.cells #[.string (bs X.name),.slice X.sA X.ss.length X.sc,.slice K.tA K.H.length K.tc,.slice X.aA K.al.length X.ac,.bool X.named] 219 (0,0)),OS 9 strK X.sA X.sc X.ss,OS 227 lnK X.aA X.ac K.al,Big opL X.al,OS 191 thK K.tA K.tc K.H]) (0) (⟨X.al,[],none,0⟩) (LkR.start X) (sb rfl) (fun _ h=>h) ?_
 intro j K hK
 refine J5 ?_
 refine Jp rfl ?_
 refine J3 ?_
 refine Jlt rfl rfl (fun hj=>?_) (fun hj=>?_)
 refine J8 ?_
 have hKl:=hK.len
 have hjX:j<X.al.length:=by omega
 refine J11 ?_
 refine E6 ?_
 refine CV.loopI (fun(k:Nat)=>k≤X.ss.length) (fun(k:Nat)=>X.ss.length-k) (fun(k:Nat)=>[(2,.pointer (some ⟨d,0,none⟩)),(4,.pointer (some ⟨q,0,none⟩)),(9,.int .i64 j),(10,.int .i64 (lst X.ss (K.al.getD j lnK.d).to k)),(11,.int .i64 k)]) (fun(k:Nat)=>Hp I w [Blk d (.cells #[.string (bs []),.slice none 0 0,.slice none 0 0] 66 (0,0)),Blk q (.cells #[.string (bs X.name),.slice X.sA X.ss.length X.sc,.slice K.tA K.H.length K.tc,.slice X.aA K.al.length X.ac,.bool X.named] 219 (0,0)),OS 9 strK X.sA X.sc X.ss,OS 227 lnK X.aA X.ac K.al,Big opL X.al,OS 191 thK K.tA K.tc K.H]) (0) (Nat.zero_le _) (sb rfl) (fun _ h=>h) ?_
 intro k hkl
 refine J5 ?_
 refine Jp rfl ?_
 refine J4 ?_
 refine Jlt rfl rfl (fun hk=>?_) (fun hk=>?_)
 refine J8 ?_
 refine Zs ?_
 refine J15 ?_
 refine J1 ?_
 refine SV.split gno (Step.eqlStr rfl rfl) rfl (fun hm=>?_) (fun hm=>?_)
 refine SV.nil ?_
 refine J14 ?_
 refine E6 ?_
 exact KV.loopI (z:=k) (k+1) (by omega) (by omega) ⟨rfl,rfl,rfl,(by first|(rw[lst_t hm];rfl)|(rw[lst_f hm];rfl)),rfl,trivial⟩ (fun _ h=>h)
 refine SV.nil ?_
 refine J11 ?_
 refine E6 ?_
 exact KV.loopI (z:=k) (k+1) (by omega) (by omega) ⟨rfl,rfl,rfl,(by first|(rw[lst_t hm];rfl)|(rw[lst_f hm];rfl)),rfl,trivial⟩ (fun _ h=>h)
 refine J10 ?_
 obtain rfl:k=X.ss.length:=by omega
 refine J2 ?_
 refine Jlt rfl rfl (fun hneg=>?_) (fun hneg=>?_)
 refine J5 ?_
 refine Jr (Step.build rfl (Bd66_)) ?_
 refine Zw 0 [_,_,_] #[_,_,_] ?_
 refine J10 ?_
 refine E1 ?_
 have hpm:=hpar.trans (fin_nf hnd (Decidable.not_not.1 hdup) (hK.bad hjX (lst_neg (Decidable.not_not.1 hdup) hneg)))
 exact KV.retC2 [_,_,_] rfl rfl rfl Tryz.underlying66 rfl I66.h rfl (fun w h=>h.cells 0 rfl) _ (fun _ h=>Hp.dL0 (h.sel [] rfl)) ⟨dh0,by rw[hpm];rfl,by rw[hpm];rfl,rfl⟩
 refine J6 ?_
 obtain⟨ix,hix1,hix⟩:=lst_pos (Decidable.not_not.1 hdup) hneg
 rw[hix1]
 refine J2 ?_
 refine Jp rfl ?_
 refine J7 ?_
 refine RV.op (Yx 3 (j) (lnTo (K.al.getD j lnK.d) ix) (j:=7) [_] rfl rfl rfl rfl rfl (by omega) rfl ?_)
 refine J2 ?_
 have hls:(K.al.set j (lnTo (K.al.getD j lnK.d) ix)).length=K.al.length:=List.length_set
 have hHl:=hK.hl
 have hal2:((K.al.set j (lnTo (K.al.getD j lnK.d) ix)).getD j lnK.d)=lnTo (K.al.getD j lnK.d) ix:=getD_set_self _ _ _ _ (by omega)
 refine An (Hp I w [OS 227 lnK X.aA X.ac (K.al.set j (lnTo (K.al.getD j lnK.d) ix))]) 20 ?_
 refine W 0 ?_
 refine W 1 ?_
 refine W 2 ?_
 refine W 3 ?_
 refine W 4 ?_
 refine W 6 ?_
 refine W 7 ?_
 refine W 8 ?_
 refine W 10 ?_
 refine V2 5 9 ?_ ?_
 refine OV.step gno (Tl 1 rfl rfl rfl) rfl ?_
 refine Wn ?_
 refine V1 9 ?_
 refine OV.step gno (Tl 1 rfl rfl rfl) rfl ?_
 refine Wn ?_
 refine W 11 ?_
 refine W 12 ?_
 refine V1 13 ?_
 refine OV.step gno (Step.loadN [.int .i64 ((K.al.set j (lnTo (K.al.getD j lnK.d) ix)).getD j lnK.d).h.t.frm,.string (bs ((K.al.set j (lnTo (K.al.getD j lnK.d) ix)).getD j lnK.d).h.t.ev),.bool ((K.al.set j (lnTo (K.al.getD j lnK.d) ix)).getD j lnK.d).h.t.gd.used,.int .u64 ((K.al.set j (lnTo (K.al.getD j lnK.d) ix)).getD j lnK.d).h.t.gd.reg,.int .u64 ((K.al.set j (lnTo (K.al.getD j lnK.d) ix)).getD j lnK.d).h.t.gd.mask,.int .u64 ((K.al.set j (lnTo (K.al.getD j lnK.d) ix)).getD j lnK.d).h.t.gd.val,.slice ((K.al.set j (lnTo (K.al.getD j lnK.d) ix)).getD j lnK.d).h.A ((K.al.set j (lnTo (K.al.getD j lnK.d) ix)).getD j lnK.d).h.t.ops.length ((K.al.set j (lnTo (K.al.getD j lnK.d) ix)).getD j lnK.d).h.c,.int .i64 ((K.al.set j (lnTo (K.al.getD j lnK.d) ix)).getD j lnK.d).h.t.to] Tryz.underlying191 rfl I191.h rfl rfl (fun w h j2 v hv=>(h.os 3 rfl).cells (by omega) j2 v (ln_pre j2 v hv))) rfl ?_
 refine Wn ?_
 refine V1 14 ?_
 refine OV.buildSlice (K:=thK) ([((K.al.set j (lnTo (K.al.getD j lnK.d) ix)).getD j lnK.d).h]) rfl (Bs64_1_0 _ _ _ _ _ _ _ _) rfl rfl (by omega) gno rfl (fun y=>?_)
 refine Wn ?_
 refine V1 15 ?_
 refine Ye 5 rfl rfl rfl rfl rfl (fun w h=>h.os 6 rfl) (by simp only[List.length_cons,List.length_nil];omega) (fun A2 c2=>?_)
 refine Wn ?_
 refine W 16 ?_
 refine W 17 ?_
 refine W 18 ?_
 refine V1 19 ?_
 refine Yw 1 [_] #[_,_,_,_,_] rfl rfl rfl rfl rfl ?_
 refine Wn ?_
 refine Vd ?_
 refine J8 ?_
 refine E6 ?_
 exact KV.loop2 (x:=j) (y:=K) (j+1) (⟨(K.al.set j (lnTo (K.al.getD j lnK.d) ix)),K.H++[((K.al.set j (lnTo (K.al.getD j lnK.d) ix)).getD j lnK.d).h],A2,c2⟩) (by rw[hal2];exact hK.next hjX hix A2 c2) (by omega) (sb rfl) (fun _ h=>by rw[hls];exact h)
 refine OV.step gno (Tl 1 rfl rfl rfl) rfl ?_
 refine Wn ?_
 refine W 11 ?_
 refine W 12 ?_
 refine V2 5 13 ?_ ?_
 refine OV.step gno (Tl 1 rfl rfl rfl) rfl ?_
 refine Wn ?_
 refine V1 13 ?_
 refine OV.step gno (Step.loadN [.int .i64 ((K.al.set j (lnTo (K.al.getD j lnK.d) ix)).getD j lnK.d).h.t.frm,.string (bs ((K.al.set j (lnTo (K.al.getD j lnK.d) ix)).getD j lnK.d).h.t.ev),.bool ((K.al.set j (lnTo (K.al.getD j lnK.d) ix)).getD j lnK.d).h.t.gd.used,.int .u64 ((K.al.set j (lnTo (K.al.getD j lnK.d) ix)).getD j lnK.d).h.t.gd.reg,.int .u64 ((K.al.set j (lnTo (K.al.getD j lnK.d) ix)).getD j lnK.d).h.t.gd.mask,.int .u64 ((K.al.set j (lnTo (K.al.getD j lnK.d) ix)).getD j lnK.d).h.t.gd.val,.slice ((K.al.set j (lnTo (K.al.getD j lnK.d) ix)).getD j lnK.d).h.A ((K.al.set j (lnTo (K.al.getD j lnK.d) ix)).getD j lnK.d).h.t.ops.length ((K.al.set j (lnTo (K.al.getD j lnK.d) ix)).getD j lnK.d).h.c,.int .i64 ((K.al.set j (lnTo (K.al.getD j lnK.d) ix)).getD j lnK.d).h.t.to] Tryz.underlying191 rfl I191.h rfl rfl (fun w h j2 v hv=>(h.os 3 rfl).cells (by omega) j2 v (ln_pre j2 v hv))) rfl ?_
 refine Wn ?_
 refine V1 14 ?_
 refine OV.buildSlice (K:=thK) ([((K.al.set j (lnTo (K.al.getD j lnK.d) ix)).getD j lnK.d).h]) rfl (Bs64_1_0 _ _ _ _ _ _ _ _) rfl rfl (by omega) gno rfl (fun y=>?_)
 refine Wn ?_
 refine V1 15 ?_
 refine Ye 5 rfl rfl rfl rfl rfl (fun w h=>h.os 6 rfl) (by simp only[List.length_cons,List.length_nil];omega) (fun A2 c2=>?_)
 refine Wn ?_
 refine W 16 ?_
 refine W 17 ?_
 refine W 18 ?_
 refine V1 19 ?_
 refine Yw 1 [_] #[_,_,_,_,_] rfl rfl rfl rfl rfl ?_
 refine Wn ?_
 refine Vd ?_
 refine J8 ?_
 refine E6 ?_
 exact KV.loop2 (x:=j) (y:=K) (j+1) (⟨(K.al.set j (lnTo (K.al.getD j lnK.d) ix)),K.H++[((K.al.set j (lnTo (K.al.getD j lnK.d) ix)).getD j lnK.d).h],A2,c2⟩) (by rw[hal2];exact hK.next hjX hix A2 c2) (by omega) (sb rfl) (fun _ h=>by rw[hls];exact h)
 refine OV.step gno (Step.loadN [.int .i64 ((K.al.set j (lnTo (K.al.getD j lnK.d) ix)).getD j lnK.d).h.t.frm,.string (bs ((K.al.set j (lnTo (K.al.getD j lnK.d) ix)).getD j lnK.d).h.t.ev),.bool ((K.al.set j (lnTo (K.al.getD j lnK.d) ix)).getD j lnK.d).h.t.gd.used,.int .u64 ((K.al.set j (lnTo (K.al.getD j lnK.d) ix)).getD j lnK.d).h.t.gd.reg,.int .u64 ((K.al.set j (lnTo (K.al.getD j lnK.d) ix)).getD j lnK.d).h.t.gd.mask,.int .u64 ((K.al.set j (lnTo (K.al.getD j lnK.d) ix)).getD j lnK.d).h.t.gd.val,.slice ((K.al.set j (lnTo (K.al.getD j lnK.d) ix)).getD j lnK.d).h.A ((K.al.set j (lnTo (K.al.getD j lnK.d) ix)).getD j lnK.d).h.t.ops.length ((K.al.set j (lnTo (K.al.getD j lnK.d) ix)).getD j lnK.d).h.c,.int .i64 ((K.al.set j (lnTo (K.al.getD j lnK.d) ix)).getD j lnK.d).h.t.to] Tryz.underlying191 rfl I191.h rfl rfl (fun w h j2 v hv=>(h.os 3 rfl).cells (by omega) j2 v (ln_pre j2 v hv))) rfl ?_
 refine Wn ?_
 refine V2 5 14 ?_ ?_
 refine OV.step gno (Tl 1 rfl rfl rfl) rfl ?_
 refine Wn ?_
 refine V1 14 ?_
 refine OV.buildSlice (K:=thK) ([((K.al.set j (lnTo (K.al.getD j lnK.d) ix)).getD j lnK.d).h]) rfl (Bs64_1_0 _ _ _ _ _ _ _ _) rfl rfl (by omega) gno rfl (fun y=>?_)
 refine Wn ?_
 refine V1 15 ?_
 refine Ye 5 rfl rfl rfl rfl rfl (fun w h=>h.os 6 rfl) (by simp only[List.length_cons,List.length_nil];omega) (fun A2 c2=>?_)
 refine Wn ?_
 refine W 16 ?_
 refine W 17 ?_
 refine W 18 ?_
 refine V1 19 ?_
 refine Yw 1 [_] #[_,_,_,_,_] rfl rfl rfl rfl rfl ?_
 refine Wn ?_
 refine Vd ?_
 refine J8 ?_
 refine E6 ?_
 exact KV.loop2 (x:=j) (y:=K) (j+1) (⟨(K.al.set j (lnTo (K.al.getD j lnK.d) ix)),K.H++[((K.al.set j (lnTo (K.al.getD j lnK.d) ix)).getD j lnK.d).h],A2,c2⟩) (by rw[hal2];exact hK.next hjX hix A2 c2) (by omega) (sb rfl) (fun _ h=>by rw[hls];exact h)
 refine OV.buildSlice (K:=thK) ([((K.al.set j (lnTo (K.al.getD j lnK.d) ix)).getD j lnK.d).h]) rfl (Bs64_1_0 _ _ _ _ _ _ _ _) rfl rfl (by omega) gno rfl (fun y=>?_)
 refine Wn ?_
 refine V1 5 ?_
 refine OV.step gno (Tl 1 rfl rfl rfl) rfl ?_
 refine Wn ?_
 refine V1 15 ?_
 refine Ye 5 rfl rfl rfl rfl rfl (fun w h=>h.os 6 rfl) (by simp only[List.length_cons,List.length_nil];omega) (fun A2 c2=>?_)
 refine Wn ?_
 refine W 16 ?_
 refine W 17 ?_
 refine W 18 ?_
 refine V1 19 ?_
 refine Yw 1 [_] #[_,_,_,_,_] rfl rfl rfl rfl rfl ?_
 refine Wn ?_
 refine Vd ?_
 refine J8 ?_
 refine E6 ?_
 exact KV.loop2 (x:=j) (y:=K) (j+1) (⟨(K.al.set j (lnTo (K.al.getD j lnK.d) ix)),K.H++[((K.al.set j (lnTo (K.al.getD j lnK.d) ix)).getD j lnK.d).h],A2,c2⟩) (by rw[hal2];exact hK.next hjX hix A2 c2) (by omega) (sb rfl) (fun _ h=>by rw[hls];exact h)
 refine J10 ?_
 have hKl:=hK.len
 refine J2 ?_
 refine Jp rfl ?_
 refine J1 ?_
 refine Jr (Tw rfl (fun w h=>cells_off 0 (us:=[.string (bs X.name),.slice X.sA X.ss.length X.sc,.slice K.tA K.H.length K.tc]) (h.cells 1 rfl) rfl)) ?_
 refine RV.op (Yc [] (F:=[_,_,_,_,_,_]) rfl rfl (fun w h=>rcheck_fn (⟨X.name,X.sA,X.sc,X.ss,K.tA,K.tc,K.H⟩:DH) (DR.ofHpL (k1:=2) (k2:=5) (k3:=4) h rfl rfl rfl (hK.own (by omega)))) (fun v L' hp=>?_))
 obtain⟨rfl,rfl⟩:=hp
 refine J6 ?_
 refine Jne rfl rfl (fun hck=>?_) (fun hck=>?_)
 refine J5 ?_
 refine Jr (Step.build rfl (Bd66_)) ?_
 refine J1 ?_
 refine Zw 0 [_,_,_] #[_,_,_] ?_
 refine J5 ?_
 refine E1 ?_
 have hpm:=hpar.trans (fin_ck hnd (Decidable.not_not.1 hdup) (hK.fin (by omega)) hck)
 exact KV.retC2 [_,_,_] rfl rfl rfl Tryz.underlying66 rfl I66.h rfl (fun w h=>h.cells 0 rfl) _ (fun _ h=>Hp.dL0 (h.sel [] rfl)) ⟨dh0,by rw[hpm];rfl,by rw[hpm];rfl,rfl⟩
 refine J8 ?_
 refine Jp rfl ?_
 refine J1 ?_
 refine Jr (Tw rfl (fun w h=>cells_off 0 (us:=[.string (bs X.name),.slice X.sA X.ss.length X.sc,.slice K.tA K.H.length K.tc]) (h.cells 1 rfl) rfl)) ?_
 refine Zw 0 [_,_,_] #[_,_,_] ?_
 refine J4 ?_
 refine K4 [0,1,3,2] rfl ?_
 have hpm:=hpar.trans (fin_ok hnd (Decidable.not_not.1 hdup) (hK.fin (by omega)) (Decidable.not_not.1 hck))
 exact KV.retC2 [_,_,_] rfl rfl rfl Tryz.underlying66 rfl I66.h rfl (fun w h=>h.cells 0 rfl) _ (fun _ h=>by show Hp I w [OS 9 strK X.sA X.sc X.ss,OS 191 thK K.tA K.tc K.H,Big opA K.H] _;rw[Big_congr2 (hK.own (by omega))];exact h.sel [1,1,1] rfl) ⟨⟨X.name,X.sA,X.sc,X.ss,K.tA,K.tc,K.H⟩,by rw[hpm],by rw[hpm];rfl,rfl⟩
theorem mod_fn (v:Int) (n:Nat) (hn:0<n) (hn2:n≤1000000):FxP Tryz.prog 7 [.int .i64 v,.int .i64 n] (.int .i64 (modM v n)):=by
 refine Fp ?_
 intro wp
 refine J8 ?_
 refine Jr (Step.convI Tryz.underlying3 Tryz.underlying101 rfl (rfl)) ?_
 refine J1 ?_
 refine Jr (Step.convI Tryz.underlying3 Tryz.underlying101 rfl (wU64 (by omega) (by omega))) ?_
 refine Jr (Step.rem rfl rfl (by omega) (rfl)) ?_
 refine Jr (Step.convI Tryz.underlying101 Tryz.underlying3 rfl (wI64 (by have:=modT v hn;omega) (by have:=modT v hn;omega))) ?_
 refine J4 ?_
 exact KV.retP1 rfl rfl (by rw[modM_t v hn])
theorem strs_get (l:List Bs) {q:Nat} (h:q<l.length):(l.map (fun s=>Value.string (bs s)))[0+q* 1]?=some (.string (bs (l.getD q []))):=by
 rw[Nat.zero_add,Nat.mul_one,List.getElem?_map,List.getElem?_eq_getElem h]
 simp[List.getD,List.getElem?_eq_getElem h]
end Go.Proofs.YtkofjhglgoojiaaGreatDoor.Dv
