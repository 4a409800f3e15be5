/-
  Joined.
-/
import Derived.Test.YtkofjhglgoojiaaGreatDoorP40
set_option linter.unusedSimpArgs false
set_option linter.unusedVariables false
namespace Go.Proofs.YtkofjhglgoojiaaGreatDoor.Dv
set_option maxRecDepth 100000
set_option maxHeartbeats 20000000
open Go.Tk Go.Sv Go.Drv
attribute [local irreducible] KV SV OV Step Code.wp wpList Exit.then Exit.inBlock Blk OS Big Bun
theorem rlines_fn (s:Bs) (hs:s.length≤1000000) {w:World}:Fx Tryz.prog 75 [.string (bs s)] w [] no (fun v L=> ∃A c,v= .slice A (splitNL s).length c∧L=[OS 9 strK A c (splitNL s)]):=by
 refine Fb ?_
 intro I hro hI
 refine J6 ?_
 refine KV.heap (fun w h=>h.nilOS (e:=9) (K:=strK)) ?_
 refine J15 ?_
 refine J1 ?_
 refine E1 ?_
 refine CV.loop2 (fun(i:Nat) (X:LnG)=>LnI s i X) (fun(i:Nat) (X:LnG)=>s.length+1-i) (fun(i:Nat) (X:LnG)=>[(0,.string (bs s)),(3,.slice X.A X.P.length X.c),(4,.int .i64 X.f),(5,.int .i64 i)]) (fun(i:Nat) (X:LnG)=>Hp I w [OS 9 strK X.A X.c X.P]) (0) (⟨0,[],none,0⟩) (LnI.start s) (sb rfl) (fun _ h=>h) ?_
 intro i X hinv
 refine J6 ?_
 refine Jle rfl rfl (fun hi=>?_) (fun hi=>?_)
 refine J8 ?_
 have hfi:=hinv.le (by omega)
 have hPl:=hinv.1
 refine J4 ?_
 refine Jeq rfl rfl (fun he=>?_) (fun he=>?_)
 refine J15 ?_
 refine Jr (Step.slStrLH Tryz.underlying9 rfl rfl rfl (X.f) (i) (rfl) (rfl) (by omega) (by omega)) ?_
 refine RV.op (OV.buildSlice (K:=strK) ([((s.take i).drop X.f)]) rfl (Bs63_1_0 _) rfl rfl (by omega) gno rfl (fun y=>?_))
 refine RV.op (Ye 0 rfl rfl rfl rfl rfl (fun w h=>h.os 1 rfl) (by simp only[List.length_cons,List.length_nil];omega) (fun A2 c2=>?_))
 refine J15 ?_
 refine J1 ?_
 refine E1 ?_
 exact KV.loop2 (x:=i) (y:=X) (i+1) (⟨i+1,X.P++[((s.take i).drop X.f)],A2,c2⟩) (by first|exact hinv.nl (by omega) hc A2 c2|exact hinv.fin (by omega) _ A2 c2) (by omega) (sb rfl) (fun _ h=>h)
 refine J3 ?_
 refine Jr (Step.idxStr Tryz.underlying9 rfl rfl _ rfl (by omega)) ?_
 refine Jeq rfl rfl (fun hc=>?_) (fun hc=>?_)
 refine J10 ?_
 refine Jr (Step.slStrLH Tryz.underlying9 rfl rfl rfl (X.f) (i) (rfl) (rfl) (by omega) (by omega)) ?_
 refine RV.op (OV.buildSlice (K:=strK) ([((s.take i).drop X.f)]) rfl (Bs63_1_0 _) rfl rfl (by omega) gno rfl (fun y=>?_))
 refine RV.op (Ye 0 rfl rfl rfl rfl rfl (fun w h=>h.os 1 rfl) (by simp only[List.length_cons,List.length_nil];omega) (fun A2 c2=>?_))
 refine J15 ?_
 refine J1 ?_
 refine E1 ?_
 exact KV.loop2 (x:=i) (y:=X) (i+1) (⟨i+1,X.P++[((s.take i).drop X.f)],A2,c2⟩) (by first|exact hinv.nl (by omega) hc A2 c2|exact hinv.fin (by omega) _ A2 c2) (by omega) (sb rfl) (fun _ h=>h)
 refine J13 ?_
 refine E1 ?_
 exact KV.loop2 (x:=i) (y:=X) (i+1) (X) (hinv.no (by omega) hc) (by omega) (sb rfl) (fun _ h=>h)
 refine J15 ?_
 refine E1 ?_
 rw[hinv.last (by omega)]
 exact Rb rfl rfl ⟨X.A,X.c,rfl,rfl⟩
def rdL (q:Nat) (X:RH):List Assn:=[Blk q (.cells #[.string (bs X.name),.slice X.sA X.ss.length X.sc,.slice none 0 0,.slice X.aA X.al.length X.ac,.bool X.named] 219 (0,0)),OS 9 strK X.sA X.sc X.ss,OS 227 lnK X.aA X.ac X.al,Big opL X.al]
structure GrR (X Y:RH):Prop where
 s:Y.ss.length≤X.ss.length+1
 a:Y.al.length≤X.al.length+1
theorem Hp.bigL {I0:Ids} {w0 w:World} {A1 A2 A3:Assn} {hs:List LH} (y:LH) {X:Assn} (h:Hp I0 w0 [A1,A2,A3,Big opL hs,X] w) (hx:X=opL y):Hp I0 w0 [A1,A2,A3,Big opL (hs++[y])] w:=by
 subst hx
 exact Hp.bigSnoc (L:=[A1,A2,A3,Big opL hs]) (k:=3) h rfl
theorem radd_fn {q:Nat} {A:Option Addr} {c:Nat} {ts:List MT} {w:World} (X:RH) (ht: ∀x∈ts,tkOk x) (h0:0<ts.length) (hl:ts.length≤1000000) (hb1:X.ss.length≤1000000) (hb2:X.al.length≤1000000):Fx Tryz.prog 77 [.pointer (some ⟨q,0,none⟩),.slice A ts.length c] w (rdL q X++[OS 292 rtokK A c ts]) no (fun v L=>(∃Y:RH,lineM X.ps ts=some Y.ps∧GrR X Y∧v= .bool true∧L=rdL q Y)∨(lineM X.ps ts=none∧v= .bool false∧L=[])):=by
 refine Fb ?_
 intro I hro hI
 unfold rdL
 simp only[List.cons_append,List.nil_append]
 refine J10 ?_
 refine Jp rfl ?_
 refine J6 ?_
 refine KV.cases 7 rfl (fun cc1=>?_) (fun cc1=>?_)
 have hnm:=neg_t cc1
 refine J5 ?_
 refine RV.op (Yc [] (F:=[_,_,_,_,_]) rfl rfl (fun w h=>kinds_fn (ts:=ts) (h.os 4 rfl) rfl hl) (fun v L' hp=>?_))
 obtain⟨rfl,rfl⟩:=hp
 refine RV.op (OV.split gno (Step.neqStr (l2:=[110,110]) rfl rfl) rfl (fun k1=>?_) (fun k1=>?_))
 refine J15 ?_
 refine J4 ?_
 refine E0 ?_
 exact KV.ret1 rfl rfl _ (fun _ h=>h.sel [] rfl) (.inr ⟨lmR_dno h0 hnm (by first|exact fun k=>k2 k.2|exact fun k=>k1 k.1),rfl,rfl⟩)
 refine J2 ?_
 refine Jr (Ti (fun w h=>(h.os 4 rfl)) rfl rfl (by first|rfl|omega) _ (show(0:Int)=((0:Nat):Int) from rfl) (by omega)) ?_
 refine J2 ?_
 refine RV.op (OV.split (gyes rfl) (Step.neqStr (l2:=[100,114,105,118,101,114]) rfl rfl) rfl (fun k2=>?_) (fun k2=>?_))
 refine J13 ?_
 refine E0 ?_
 exact KV.ret1 rfl rfl _ (fun _ h=>h.sel [] rfl) (.inr ⟨lmR_dno h0 hnm (by first|exact fun k=>k2 k.2|exact fun k=>k1 k.1),rfl,rfl⟩)
 refine J7 ?_
 have hl2:ts.length=2:=by have:=congrArg List.length (Decidable.not_not.1 k1);rw[List.length_map] at this;exact this
 refine J4 ?_
 refine Jr (Ti (fun w h=>(h.os 4 rfl)) rfl rfl (by first|rfl|omega) _ (show(1:Int)=((1:Nat):Int) from rfl) (by omega)) ?_
 refine J2 ?_
 refine Jp rfl ?_
 refine J2 ?_
 refine Zw 0 [_] #[_,_,_,_,_] ?_
 refine Jp rfl ?_
 refine J1 ?_
 refine Zw 0 [_] #[_,_,_,_,_] ?_
 refine J10 ?_
 refine E4 ?_
 exact Rb rfl rfl (.inl ⟨{X with name:=rtext (tA ts 1),named:=true},lmR_dok ht hnm (Decidable.not_not.1 k1) (Decidable.not_not.1 k2),⟨by simp,by simp⟩,rfl,rfl⟩)
 have hnm:=neg_f cc1
 refine J4 ?_
 refine Jr (Ti (fun w h=>(h.os 4 rfl)) rfl rfl (by first|rfl|omega) _ (show(0:Int)=((0:Nat):Int) from rfl) (by omega)) ?_
 refine J2 ?_
 refine RV.op (OV.split gno (Step.eqlStr (l2:=[115,116,97,116,101]) rfl rfl) rfl (fun k3=>?_) (fun k3=>?_))
 refine J8 ?_
 refine RV.op (Yc [] (F:=[_,_,_,_,_]) rfl rfl (fun w h=>kinds_fn (ts:=ts) (h.os 4 rfl) rfl hl) (fun v L' hp=>?_))
 obtain⟨rfl,rfl⟩:=hp
 refine RV.op (OV.split gno (Step.neqStr (l2:=[110,110]) rfl rfl) rfl (fun k4=>?_) (fun k4=>?_))
 refine J12 ?_
 refine E0 ?_
 exact KV.ret1 rfl rfl _ (fun _ h=>h.sel [] rfl) (.inr ⟨lmR_sno hnm k3 k4,rfl,rfl⟩)
 refine J6 ?_
 have hl2:ts.length=2:=by have:=congrArg List.length (Decidable.not_not.1 k4);rw[List.length_map] at this;exact this
 refine An (Hp I w [OS 292 rtokK A c ts]) 16 ?_
 refine W 0 ?_
 refine W 1 ?_
 refine W 2 ?_
 refine W 3 ?_
 refine W 4 ?_
 refine W 6 ?_
 refine Wt 7 rfl (Ti (fun w h=>h.os 0 rfl) rfl rfl (by first|rfl|omega) _ (show(1:Int)=((1:Nat):Int) from rfl) (by omega)) ?_
 refine W 8 ?_
 refine W 9 ?_
 refine V2 5 10 ?_ ?_
 refine OV.step gno (Tl 0 rfl rfl rfl) rfl ?_
 refine Wn ?_
 refine V1 10 ?_
 refine OV.buildSlice (K:=strK) ([rtext (tA ts 1)]) rfl (Bs63_1_0 _) rfl rfl (by omega) gno rfl (fun y=>?_)
 refine Wn ?_
 refine V1 11 ?_
 refine Ye 1 rfl rfl rfl rfl rfl (fun w h=>h.os 5 rfl) (by simp only[List.length_cons,List.length_nil];omega) (fun A2 c2=>?_)
 refine Wn ?_
 refine W 12 ?_
 refine W 13 ?_
 refine W 14 ?_
 refine V1 15 ?_
 refine Yw 0 [_] #[_,_,_,_,_] rfl rfl rfl rfl rfl ?_
 refine Wn ?_
 refine Vd ?_
 refine J9 ?_
 refine E4 ?_
 exact Rb rfl rfl (.inl ⟨{X with sA:=A2,sc:=c2,ss:=X.ss++[rtext (tA ts 1)]},lmR_sok ht hnm (Decidable.not_not.1 k4) k3,⟨by simp,by simp⟩,rfl,rfl⟩)
 refine OV.buildSlice (K:=strK) ([rtext (tA ts 1)]) rfl (Bs63_1_0 _) rfl rfl (by omega) gno rfl (fun y=>?_)
 refine Wn ?_
 refine V1 5 ?_
 refine OV.step gno (Tl 0 rfl rfl rfl) rfl ?_
 refine Wn ?_
 refine V1 11 ?_
 refine Ye 1 rfl rfl rfl rfl rfl (fun w h=>h.os 5 rfl) (by simp only[List.length_cons,List.length_nil];omega) (fun A2 c2=>?_)
 refine Wn ?_
 refine W 12 ?_
 refine W 13 ?_
 refine W 14 ?_
 refine V1 15 ?_
 refine Yw 0 [_] #[_,_,_,_,_] rfl rfl rfl rfl rfl ?_
 refine Wn ?_
 refine Vd ?_
 refine J9 ?_
 refine E4 ?_
 exact Rb rfl rfl (.inl ⟨{X with sA:=A2,sc:=c2,ss:=X.ss++[rtext (tA ts 1)]},lmR_sok ht hnm (Decidable.not_not.1 k4) k3,⟨by simp,by simp⟩,rfl,rfl⟩)
 refine J7 ?_
 refine Jr (Ti (fun w h=>(h.os 4 rfl)) rfl rfl (by first|rfl|omega) _ (show(0:Int)=((0:Nat):Int) from rfl) (by omega)) ?_
 refine J2 ?_
 refine RV.op (OV.split gno (Step.eqlStr (l2:=[111,110]) rfl rfl) rfl (fun k5=>?_) (fun k5=>?_))
 refine J2 ?_
 refine Jp rfl ?_
 refine J4 ?_
 refine Jgt rfl rfl (fun k6=>?_) (fun k6=>?_)
 refine J6 ?_
 have hkb:kB (tA ts 0)=110:=by rw[rt_nm (t:=tA ts 0) (by rw[k5];decide)];rfl
 have hss:X.ss≠[]:=by intro e;rw[e] at k6;exact absurd k6 (by decide)
 refine J3 ?_
 refine Jp rfl ?_
 refine J5 ?_
 refine RV.op (Yc [] (F:=[_,_,_,_,_]) rfl rfl (fun w h=>ron_fn ((X.ss.length:Int)-1) (h.os 4 rfl) (h.osCap 4 rfl).1 ht hl h0 hkb) (fun v L' hp=>?_))
 rcases hp with ⟨x,A1,c1,hon,hol,rfl,rfl⟩|⟨hon,y0,hy1,hy2,hy3,rfl,rfl⟩
 obtain⟨yy,hyy⟩: ∃yy:LH,yy=(⟨⟨{x.1 with frm:=(X.ss.length:Int)-1},A1,c1⟩,x.2⟩:LH):=⟨_,rfl⟩
 rw[←hyy]
 refine J3 ?_
 refine RV.op (OV.alloc #[.int .i64 0,.string (Sv.bs []),.bool false,.int .u64 0,.int .u64 0,.int .u64 0,.slice none 0 0,.int .i64 0,.string (Sv.bs [])] I227.h rfl gno rfl (fun x5=>?_))
 refine Zw 6 [_,_,_,_,_,_,_,_,_] #[_,_,_,_,_,_,_,_,_] ?_
 refine J4 ?_
 refine An (Hp I w [Blk x5 (.cells #[.int .i64 yy.h.t.frm,.string (bs yy.h.t.ev),.bool yy.h.t.gd.used,.int .u64 yy.h.t.gd.reg,.int .u64 yy.h.t.gd.mask,.int .u64 yy.h.t.gd.val,.slice yy.h.A yy.h.t.ops.length yy.h.c,.int .i64 yy.h.t.to,.string (bs yy.to)] 227 (0,0))]) 11 ?_
 refine W 0 ?_
 refine W 1 ?_
 refine W 2 ?_
 refine W 3 ?_
 refine W 5 ?_
 refine V2 4 6 ?_ ?_
 refine OV.step gno (Tl 0 rfl rfl rfl) rfl ?_
 refine Wn ?_
 refine V1 6 ?_
 refine OV.buildSlice (K:=lnK) ([yy]) rfl (Bs217_1_0 _ _ _ _ _ _ _ _ _) rfl rfl (by omega) gno rfl (fun y=>?_)
 refine Wn ?_
 refine V1 7 ?_
 refine Ye 2 rfl rfl rfl rfl rfl (fun w h=>h.os 7 rfl) (by simp only[List.length_cons,List.length_nil];omega) (fun A2 c2=>?_)
 refine Wn ?_
 refine W 8 ?_
 refine W 9 ?_
 refine V1 10 ?_
 refine Yw 0 [_] #[_,_,_,_,_] rfl rfl rfl rfl rfl ?_
 refine Wn ?_
 refine Vd ?_
 refine J10 ?_
 refine K5 [0,0,0,0,1] rfl ?_
 have hlm:=lmR_on (p:=X.ps) (ts:=ts) hnm k5 hss
 rw[hon] at hlm
 exact KV.ret1 rfl rfl _ (fun _ h=>Hp.bigL yy h (by rw[hyy];rfl)) (.inl ⟨{X with aA:=A2,ac:=c2,al:=X.al++[yy]},by rw[hlm,hyy];simp[RH.ps],⟨by simp,by simp⟩,rfl,rfl⟩)
 refine OV.buildSlice (K:=lnK) ([yy]) rfl (Bs217_1_0 _ _ _ _ _ _ _ _ _) rfl rfl (by omega) gno rfl (fun y=>?_)
 refine Wn ?_
 refine V1 4 ?_
 refine OV.step gno (Tl 0 rfl rfl rfl) rfl ?_
 refine Wn ?_
 refine V1 7 ?_
 refine Ye 2 rfl rfl rfl rfl rfl (fun w h=>h.os 7 rfl) (by simp only[List.length_cons,List.length_nil];omega) (fun A2 c2=>?_)
 refine Wn ?_
 refine W 8 ?_
 refine W 9 ?_
 refine V1 10 ?_
 refine Yw 0 [_] #[_,_,_,_,_] rfl rfl rfl rfl rfl ?_
 refine Wn ?_
 refine Vd ?_
 refine J10 ?_
 refine K5 [0,0,0,0,1] rfl ?_
 have hlm:=lmR_on (p:=X.ps) (ts:=ts) hnm k5 hss
 rw[hon] at hlm
 exact KV.ret1 rfl rfl _ (fun _ h=>Hp.bigL yy h (by rw[hyy];rfl)) (.inl ⟨{X with aA:=A2,ac:=c2,al:=X.al++[yy]},by rw[hlm,hyy];simp[RH.ps],⟨by simp,by simp⟩,rfl,rfl⟩)
 simp only[List.append_nil]
 obtain⟨yy,hyy⟩: ∃yy:LH,yy=y0:=⟨_,rfl⟩
 rw[←hyy]
 refine J3 ?_
 refine RV.op (OV.alloc #[.int .i64 0,.string (Sv.bs []),.bool false,.int .u64 0,.int .u64 0,.int .u64 0,.slice none 0 0,.int .i64 0,.string (Sv.bs [])] I227.h rfl gno rfl (fun x5=>?_))
 refine Zw 5 [_,_,_,_,_,_,_,_,_] #[_,_,_,_,_,_,_,_,_] ?_
 refine J4 ?_
 refine An (Hp I w [Blk x5 (.cells #[.int .i64 yy.h.t.frm,.string (bs yy.h.t.ev),.bool yy.h.t.gd.used,.int .u64 yy.h.t.gd.reg,.int .u64 yy.h.t.gd.mask,.int .u64 yy.h.t.gd.val,.slice yy.h.A yy.h.t.ops.length yy.h.c,.int .i64 yy.h.t.to,.string (bs yy.to)] 227 (0,0))]) 11 ?_
 refine W 0 ?_
 refine W 1 ?_
 refine W 2 ?_
 refine W 3 ?_
 refine W 5 ?_
 refine V2 4 6 ?_ ?_
 refine OV.step gno (Tl 0 rfl rfl rfl) rfl ?_
 refine Wn ?_
 refine V1 6 ?_
 refine OV.buildSlice (K:=lnK) ([yy]) rfl (Bs217_1_0 _ _ _ _ _ _ _ _ _) rfl rfl (by omega) gno rfl (fun y=>?_)
 refine Wn ?_
 refine V1 7 ?_
 refine Ye 2 rfl rfl rfl rfl rfl (fun w h=>h.os 6 rfl) (by simp only[List.length_cons,List.length_nil];omega) (fun A2 c2=>?_)
 refine Wn ?_
 refine W 8 ?_
 refine W 9 ?_
 refine V1 10 ?_
 refine Yw 0 [_] #[_,_,_,_,_] rfl rfl rfl rfl rfl ?_
 refine Wn ?_
 refine Vd ?_
 refine J10 ?_
 refine E0 ?_
 have hlm:=lmR_on (p:=X.ps) (ts:=ts) hnm k5 hss
 rw[hon] at hlm
 exact KV.ret1 rfl rfl _ (fun _ h=>h) (.inr ⟨hlm,rfl,rfl⟩)
 refine OV.buildSlice (K:=lnK) ([yy]) rfl (Bs217_1_0 _ _ _ _ _ _ _ _ _) rfl rfl (by omega) gno rfl (fun y=>?_)
 refine Wn ?_
 refine V1 4 ?_
 refine OV.step gno (Tl 0 rfl rfl rfl) rfl ?_
 refine Wn ?_
 refine V1 7 ?_
 refine Ye 2 rfl rfl rfl rfl rfl (fun w h=>h.os 6 rfl) (by simp only[List.length_cons,List.length_nil];omega) (fun A2 c2=>?_)
 refine Wn ?_
 refine W 8 ?_
 refine W 9 ?_
 refine V1 10 ?_
 refine Yw 0 [_] #[_,_,_,_,_] rfl rfl rfl rfl rfl ?_
 refine Wn ?_
 refine Vd ?_
 refine J10 ?_
 refine E0 ?_
 have hlm:=lmR_on (p:=X.ps) (ts:=ts) hnm k5 hss
 rw[hon] at hlm
 exact KV.ret1 rfl rfl _ (fun _ h=>h) (.inr ⟨hlm,rfl,rfl⟩)
 refine J14 ?_
 refine E0 ?_
 exact KV.ret1 rfl rfl _ (fun _ h=>h.sel [] rfl) (.inr ⟨lmR_no h0 hnm k3 (by first|exact fun k=>k5 k.1|exact fun k=>k6 (by have h9:0<X.ss.length:=List.length_pos_iff.2 k.2;omega)),rfl,rfl⟩)
 refine J15 ?_
 refine J7 ?_
 refine E0 ?_
 exact KV.ret1 rfl rfl _ (fun _ h=>h.sel [] rfl) (.inr ⟨lmR_no h0 hnm k3 (by first|exact fun k=>k5 k.1|exact fun k=>k6 (by have h9:0<X.ss.length:=List.length_pos_iff.2 k.2;omega)),rfl,rfl⟩)
end Go.Proofs.YtkofjhglgoojiaaGreatDoor.Dv
