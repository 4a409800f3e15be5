/-
  Joined.
-/
import Derived.Test.YtkofjhglgoojiaaGreatDoorP14
set_option linter.unusedSimpArgs false
set_option linter.unusedVariables false
namespace Go.Proofs.YtkofjhglgoojiaaGreatDoor.Dv
set_option maxRecDepth 100000
set_option maxHeartbeats 20000000
open Go.Tk Go.Sv Go.Drv
attribute [local irreducible] KV SV OV Step Code.wp wpList Exit.then Exit.inBlock Blk OS Big Bun
def psL (p:Nat) (P:PH):List Assn:=[Blk p (.cells #[.string (bs P.name),.slice P.sA P.ss.length P.sc,.slice P.tA P.hs.length P.tc,.bool P.named,.slice P.gA P.tg.length P.gc] 352 (0,0)),OS 9 strK P.sA P.sc P.ss,OS 191 thK P.tA P.tc P.hs,Big opA P.hs,OS 9 strK P.gA P.gc P.tg]
structure Grow (P P':PH):Prop where
 s:P'.ss.length≤P.ss.length+1
 t:P'.hs.length≤P.hs.length+1
 g:P'.tg.length≤P.tg.length+1
theorem line_fn {p:Nat} {A:Option Addr} {c:Nat} {ts:List MT} {w:World} (P:PH) (ht: ∀x∈ts,tkOk x) (hl:ts.length≤1000000) (h1:P.ss.length≤1000000) (h2:P.hs.length≤1000000) (h3:P.tg.length≤1000000):Fx Tryz.prog 167 [.pointer (some ⟨p,0,none⟩),.slice A ts.length c] w (psL p P++[OS 370 tokK A c ts]) no (fun v L=>(∃P':PH,lineM P.ps ts=some P'.ps∧Grow P P'∧v= .bool true∧L=psL p P'++[OS 370 tokK A c ts])∨(lineM P.ps ts=none∧v= .bool false∧L=[])):=by
 refine Fb ?_
 intro I hro hI
 unfold psL
 refine J10 ?_
 refine Jeq rfl rfl (fun hz=>?_) (fun hz=>?_)
 refine J10 ?_
 refine E6 ?_
 exact Rb rfl rfl (.inl ⟨P,lm_nil (by omega),⟨Nat.le_succ _,Nat.le_succ _,Nat.le_succ _⟩,rfl,rfl⟩)
 refine J8 ?_
 refine Jr (Step.build rfl (Bd376_0 _ _ _)) ?_
 refine RV.op (Ya (fun q=>?_))
 refine Zw 6 [_,_] #[_,_] ?_
 refine J4 ?_
 refine RV.op (Yc [6,5] (F:=[_,_,_,_,_]) rfl rfl (fun w h=>name_fn (i:=0) (Nat.zero_le _) hl) (fun v L' hp=>?_))
 rcases hp with ⟨kw,hK,hKl,rfl,rfl⟩|⟨hK,rfl,rfl⟩
 refine J15 ?_
 refine J7 ?_
 refine Jp rfl ?_
 refine J6 ?_
 refine KV.cases 24 rfl (fun cc1=>?_) (fun cc1=>?_)
 have hnd:=neg_t cc1
 refine J4 ?_
 refine RV.op (Yc [5,5] (F:=[_,_,_,_,_]) rfl rfl (fun w h=>name_fn (by omega) hl) (fun v L' hp=>?_))
 rcases hp with ⟨n,hN,hNl,rfl,rfl⟩|⟨hN,rfl,rfl⟩
 refine J3 ?_
 refine Jp rfl ?_
 refine J2 ?_
 refine Zw 0 [_] #[_,_,_,_,_] ?_
 refine J6 ?_
 refine Jp rfl ?_
 refine J1 ?_
 refine Zw 0 [_] #[_,_,_,_,_] ?_
 refine J7 ?_
 refine RV.op (OV.split (gyes rfl) (Step.eqlStr (l2:=[100,114,105,118,101,114]) rfl rfl) rfl (fun hkd=>?_) (fun hkd=>?_))
 refine J2 ?_
 refine RV.op (Yc [] (F:=[_,_,_,_,_,_,_]) rfl rfl (fun w h=>atEnd_fn (h.blk 5 rfl)) (fun v L' hp=>?_))
 obtain⟨rfl,rfl⟩:=hp
 refine J7 ?_
 refine K6 [0,0,0,0,0,1] rfl ?_
 (first|(exact KV.ret1 rfl rfl _ (fun _ h=>h.sel [] rfl) (.inr ⟨lm_dn hK hnd hN,rfl,rfl⟩))|(exact KV.ret1 rfl rfl _ (fun _ h=>h.sel [] rfl) (.inr ⟨lm_dk hK hnd hkd,rfl,rfl⟩))|(by_cases hend:0+1+1=ts.length;(rw[decide_eq_true hend];exact KV.ret1 rfl rfl _ (fun _ h=>h) (.inl ⟨{P with named:=true,name:=n},lm_dok hK hnd hN hkd hend,⟨by first|exact Nat.le_succ _|(show(_++_:List _).length≤_;rw[List.length_append];exact Nat.le_refl _),by first|exact Nat.le_succ _|(show(_++_:List _).length≤_;rw[List.length_append];exact Nat.le_refl _),by first|exact Nat.le_succ _|(show(_++_:List _).length≤_;rw[List.length_append];exact Nat.le_refl _)⟩,rfl,rfl⟩));rw[decide_eq_false hend];exact KV.ret1 rfl rfl _ (fun _ h=>h.sel [] rfl) (.inr ⟨lm_de hK hnd hN (by omega) hend,rfl,rfl⟩)))
 refine J10 ?_
 refine K6 [0,0,0,0,0,1] rfl ?_
 (first|(exact KV.ret1 rfl rfl _ (fun _ h=>h.sel [] rfl) (.inr ⟨lm_dn hK hnd hN,rfl,rfl⟩))|(exact KV.ret1 rfl rfl _ (fun _ h=>h.sel [] rfl) (.inr ⟨lm_dk hK hnd hkd,rfl,rfl⟩))|(by_cases hend:0+1+1=ts.length;(rw[decide_eq_true hend];exact KV.ret1 rfl rfl _ (fun _ h=>h) (.inl ⟨{P with named:=true,name:=n},lm_dok hK hnd hN hkd hend,⟨by first|exact Nat.le_succ _|(show(_++_:List _).length≤_;rw[List.length_append];exact Nat.le_refl _),by first|exact Nat.le_succ _|(show(_++_:List _).length≤_;rw[List.length_append];exact Nat.le_refl _),by first|exact Nat.le_succ _|(show(_++_:List _).length≤_;rw[List.length_append];exact Nat.le_refl _)⟩,rfl,rfl⟩));rw[decide_eq_false hend];exact KV.ret1 rfl rfl _ (fun _ h=>h.sel [] rfl) (.inr ⟨lm_de hK hnd hN (by omega) hend,rfl,rfl⟩)))
 refine J3 ?_
 refine Jp rfl ?_
 refine J2 ?_
 refine Zw 0 [_] #[_,_,_,_,_] ?_
 refine J6 ?_
 refine Jp rfl ?_
 refine J1 ?_
 refine Zw 0 [_] #[_,_,_,_,_] ?_
 refine J15 ?_
 refine J3 ?_
 refine K6 [0,0,0,0,0,1] rfl ?_
 (first|(exact KV.ret1 rfl rfl _ (fun _ h=>h.sel [] rfl) (.inr ⟨lm_dn hK hnd hN,rfl,rfl⟩))|(exact KV.ret1 rfl rfl _ (fun _ h=>h.sel [] rfl) (.inr ⟨lm_dk hK hnd hkd,rfl,rfl⟩))|(by_cases hend:0+1+1=ts.length;(rw[decide_eq_true hend];exact KV.ret1 rfl rfl _ (fun _ h=>h) (.inl ⟨{P with named:=true,name:=n},lm_dok hK hnd hN hkd hend,⟨by first|exact Nat.le_succ _|(show(_++_:List _).length≤_;rw[List.length_append];exact Nat.le_refl _),by first|exact Nat.le_succ _|(show(_++_:List _).length≤_;rw[List.length_append];exact Nat.le_refl _),by first|exact Nat.le_succ _|(show(_++_:List _).length≤_;rw[List.length_append];exact Nat.le_refl _)⟩,rfl,rfl⟩));rw[decide_eq_false hend];exact KV.ret1 rfl rfl _ (fun _ h=>h.sel [] rfl) (.inr ⟨lm_de hK hnd hN (by omega) hend,rfl,rfl⟩)))
 have hnd:=neg_f cc1
 refine J4 ?_
 refine RV.op (OV.split gno (Step.eqlStr (l2:=[115,116,97,116,101]) rfl rfl) rfl (fun hks=>?_) (fun hks=>?_))
 refine J6 ?_
 refine RV.op (Yc [5,5] (F:=[_,_,_,_,_]) rfl rfl (fun w h=>name_fn (by omega) hl) (fun v L' hp=>?_))
 rcases hp with ⟨n,hN,hNl,rfl,rfl⟩|⟨hN,rfl,rfl⟩
 refine J11 ?_
 refine Jp rfl ?_
 refine J4 ?_
 refine RV.op (OV.buildSlice (K:=strK) ([n]) rfl (Bs63_1_0 _) rfl rfl (by omega) gno rfl (fun b13_7=>?_))
 refine RV.op (Ye 1 rfl rfl rfl rfl rfl (fun w h=>h.os 7 rfl) (by simp only[List.length_cons,List.length_nil];omega) (fun A2 c2=>?_))
 refine Jp rfl ?_
 refine J2 ?_
 refine Zw 0 [_] #[_,_,_,_,_] ?_
 refine J6 ?_
 refine RV.op (Yc [] (F:=[_,_,_,_,_,_,_,_]) rfl rfl (fun w h=>atEnd_fn (h.blk 5 rfl)) (fun v L' hp=>?_))
 obtain⟨rfl,rfl⟩:=hp
 refine J7 ?_
 refine K6 [0,0,0,0,0,1] rfl ?_
 (first|(exact KV.ret1 rfl rfl _ (fun _ h=>h.sel [] rfl) (.inr ⟨lm_sn hK hnd hks hN,rfl,rfl⟩))|(by_cases hend:0+1+1=ts.length;(rw[decide_eq_true hend];exact KV.ret1 rfl rfl _ (fun _ h=>h) (.inl ⟨{P with sA:=A2,sc:=c2,ss:=P.ss++[n]},lm_sok hK hnd hks hN hend,⟨by first|exact Nat.le_succ _|(show(_++_:List _).length≤_;rw[List.length_append];exact Nat.le_refl _),by first|exact Nat.le_succ _|(show(_++_:List _).length≤_;rw[List.length_append];exact Nat.le_refl _),by first|exact Nat.le_succ _|(show(_++_:List _).length≤_;rw[List.length_append];exact Nat.le_refl _)⟩,rfl,rfl⟩));rw[decide_eq_false hend];exact KV.ret1 rfl rfl _ (fun _ h=>h.sel [] rfl) (.inr ⟨lm_se hK hnd hks hN (by omega) hend,rfl,rfl⟩)))
 refine J11 ?_
 refine Jp rfl ?_
 refine J4 ?_
 refine RV.op (OV.buildSlice (K:=strK) ([[]]) rfl (Bs63_1_0 _) rfl rfl (by omega) gno rfl (fun b13_7=>?_))
 refine RV.op (Ye 1 rfl rfl rfl rfl rfl (fun w h=>h.os 7 rfl) (by simp only[List.length_cons,List.length_nil];omega) (fun A2 c2=>?_))
 refine Jp rfl ?_
 refine J2 ?_
 refine Zw 0 [_] #[_,_,_,_,_] ?_
 refine J14 ?_
 refine K6 [0,0,0,0,0,1] rfl ?_
 (first|(exact KV.ret1 rfl rfl _ (fun _ h=>h.sel [] rfl) (.inr ⟨lm_sn hK hnd hks hN,rfl,rfl⟩))|(by_cases hend:0+1+1=ts.length;(rw[decide_eq_true hend];exact KV.ret1 rfl rfl _ (fun _ h=>h) (.inl ⟨{P with sA:=A2,sc:=c2,ss:=P.ss++[n]},lm_sok hK hnd hks hN hend,⟨by first|exact Nat.le_succ _|(show(_++_:List _).length≤_;rw[List.length_append];exact Nat.le_refl _),by first|exact Nat.le_succ _|(show(_++_:List _).length≤_;rw[List.length_append];exact Nat.le_refl _),by first|exact Nat.le_succ _|(show(_++_:List _).length≤_;rw[List.length_append];exact Nat.le_refl _)⟩,rfl,rfl⟩));rw[decide_eq_false hend];exact KV.ret1 rfl rfl _ (fun _ h=>h.sel [] rfl) (.inr ⟨lm_se hK hnd hks hN (by omega) hend,rfl,rfl⟩)))
 refine J7 ?_
 refine RV.op (OV.split gno (Step.eqlStr (l2:=[111,110]) rfl rfl) rfl (fun hko=>?_) (fun hko=>?_))
 refine J2 ?_
 refine Jp rfl ?_
 refine J4 ?_
 refine Jgt rfl rfl (fun hss=>?_) (fun hss=>?_)
 refine J7 ?_
 refine RV.op (Yc [5,5] (F:=[_,_,_,_,_]) rfl rfl (fun w h=>transition_fn ht (by omega) hl) (fun v L' hp=>?_))
 rcases hp with ⟨H,s,k,hO,hk,rfl,rfl⟩|⟨hO,H,s,k,hk,rfl,rfl⟩
 refine J4 ?_
 refine RV.op (OV.alloc #[.int .i64 0,.string (Sv.bs []),.bool false,.int .u64 0,.int .u64 0,.int .u64 0,.slice none 0 0,.int .i64 0] I191.h rfl gno rfl (fun tr=>?_))
 refine Zw 8 [_,_,_,_,_,_,_,_] #[_,_,_,_,_,_,_,_] ?_
 refine J7 ?_
 refine Jp rfl ?_
 refine J6 ?_
 refine Zw 8 [_] #[_,_,_,_,_,_,_,_] ?_
 refine J3 ?_
 refine An (Hp I w [Blk tr (.cells #[.int .i64 ((P.ss.length:Int)-1),.string (bs H.t.ev),.bool H.t.gd.used,.int .u64 H.t.gd.reg,.int .u64 H.t.gd.mask,.int .u64 H.t.gd.val,.slice H.A H.t.ops.length H.c,.int .i64 H.t.to] 191 (0,0))]) 13 ?_
 refine W 0 ?_
 refine W 1 ?_
 refine W 2 ?_
 refine W 3 ?_
 refine W 4 ?_
 refine W 6 ?_
 refine V2 5 7 ?_ ?_
 refine OV.step gno (Tl 0 rfl rfl rfl) rfl ?_
 refine Wn ?_
 refine V1 7 ?_
 refine OV.buildSlice (K:=thK) ([({H with t:={H.t with frm:=(P.ss.length:Int)-1}}:TH)]) rfl (Bs64_1_0 _ _ _ _ _ _ _ _) rfl rfl (by omega) gno rfl (fun b18_7=>?_)
 refine Wn ?_
 refine V1 8 ?_
 refine Ye 2 rfl rfl rfl rfl rfl (fun w h=>h.os 9 rfl) (by simp only[List.length_cons,List.length_nil];omega) (fun A2 c2=>?_)
 refine Wn ?_
 refine W 9 ?_
 refine W 10 ?_
 refine W 11 ?_
 refine V1 12 ?_
 refine Yw 0 [_] #[_,_,_,_,_] rfl rfl rfl rfl rfl ?_
 refine Wn ?_
 refine Vd ?_
 refine J5 ?_
 refine Jp rfl ?_
 refine J3 ?_
 refine RV.op (OV.buildSlice (K:=strK) ([s]) rfl (Bs63_1_0 _) rfl rfl (by omega) gno rfl (fun b19_6=>?_))
 refine RV.op (Ye 4 rfl rfl rfl rfl rfl (fun w h=>h.os 10 rfl) (by simp only[List.length_cons,List.length_nil];omega) (fun A3 c3=>?_))
 refine Jp rfl ?_
 refine J1 ?_
 refine Zw 0 [_] #[_,_,_,_,_] ?_
 refine J11 ?_
 refine K7 [0,0,0,0,0,1,1] rfl ?_
 exact KV.ret1 rfl rfl _ (fun _ h=>Hp.bigSnoc (L:=[_,_,_,_,_,_]) (F:=opA) (h':=({H with t:={H.t with frm:=(P.ss.length:Int)-1}}:TH)) (k:=3) h rfl) (.inl ⟨({P with tA:=A2,tc:=c2,hs:=P.hs++[({H with t:={H.t with frm:=(P.ss.length:Int)-1}}:TH)],gA:=A3,gc:=c3,tg:=P.tg++[s]}:PH),(lm_ook hK hnd hks hko (fun k=>by have h5:P.ps.ss.length=P.ss.length:=rfl;rw[k] at h5;have h6:([]:List Bs).length=0:=rfl;omega) hO).trans (by simp[PH.ps]),⟨by first|exact Nat.le_succ _|(show(_++_:List _).length≤_;rw[List.length_append];exact Nat.le_refl _),by first|exact Nat.le_succ _|(show(_++_:List _).length≤_;rw[List.length_append];exact Nat.le_refl _),by first|exact Nat.le_succ _|(show(_++_:List _).length≤_;rw[List.length_append];exact Nat.le_refl _)⟩,rfl,rfl⟩)
 refine OV.buildSlice (K:=thK) ([({H with t:={H.t with frm:=(P.ss.length:Int)-1}}:TH)]) rfl (Bs64_1_0 _ _ _ _ _ _ _ _) rfl rfl (by omega) gno rfl (fun b18_7=>?_)
 refine Wn ?_
 refine V1 5 ?_
 refine OV.step gno (Tl 0 rfl rfl rfl) rfl ?_
 refine Wn ?_
 refine V1 8 ?_
 refine Ye 2 rfl rfl rfl rfl rfl (fun w h=>h.os 9 rfl) (by simp only[List.length_cons,List.length_nil];omega) (fun A2 c2=>?_)
 refine Wn ?_
 refine W 9 ?_
 refine W 10 ?_
 refine W 11 ?_
 refine V1 12 ?_
 refine Yw 0 [_] #[_,_,_,_,_] rfl rfl rfl rfl rfl ?_
 refine Wn ?_
 refine Vd ?_
 refine J5 ?_
 refine Jp rfl ?_
 refine J3 ?_
 refine RV.op (OV.buildSlice (K:=strK) ([s]) rfl (Bs63_1_0 _) rfl rfl (by omega) gno rfl (fun b19_6=>?_))
 refine RV.op (Ye 4 rfl rfl rfl rfl rfl (fun w h=>h.os 10 rfl) (by simp only[List.length_cons,List.length_nil];omega) (fun A3 c3=>?_))
 refine Jp rfl ?_
 refine J1 ?_
 refine Zw 0 [_] #[_,_,_,_,_] ?_
 refine J11 ?_
 refine K7 [0,0,0,0,0,1,1] rfl ?_
 exact KV.ret1 rfl rfl _ (fun _ h=>Hp.bigSnoc (L:=[_,_,_,_,_,_]) (F:=opA) (h':=({H with t:={H.t with frm:=(P.ss.length:Int)-1}}:TH)) (k:=3) h rfl) (.inl ⟨({P with tA:=A2,tc:=c2,hs:=P.hs++[({H with t:={H.t with frm:=(P.ss.length:Int)-1}}:TH)],gA:=A3,gc:=c3,tg:=P.tg++[s]}:PH),(lm_ook hK hnd hks hko (fun k=>by have h5:P.ps.ss.length=P.ss.length:=rfl;rw[k] at h5;have h6:([]:List Bs).length=0:=rfl;omega) hO).trans (by simp[PH.ps]),⟨by first|exact Nat.le_succ _|(show(_++_:List _).length≤_;rw[List.length_append];exact Nat.le_refl _),by first|exact Nat.le_succ _|(show(_++_:List _).length≤_;rw[List.length_append];exact Nat.le_refl _),by first|exact Nat.le_succ _|(show(_++_:List _).length≤_;rw[List.length_append];exact Nat.le_refl _)⟩,rfl,rfl⟩)
 refine J4 ?_
 refine RV.op (OV.alloc #[.int .i64 0,.string (Sv.bs []),.bool false,.int .u64 0,.int .u64 0,.int .u64 0,.slice none 0 0,.int .i64 0] I191.h rfl gno rfl (fun tr=>?_))
 refine Zw 7 [_,_,_,_,_,_,_,_] #[_,_,_,_,_,_,_,_] ?_
 refine J7 ?_
 refine Jp rfl ?_
 refine J6 ?_
 refine Zw 7 [_] #[_,_,_,_,_,_,_,_] ?_
 refine J3 ?_
 refine An (Hp I w [Blk tr (.cells #[.int .i64 ((P.ss.length:Int)-1),.string (bs H.t.ev),.bool H.t.gd.used,.int .u64 H.t.gd.reg,.int .u64 H.t.gd.mask,.int .u64 H.t.gd.val,.slice H.A H.t.ops.length H.c,.int .i64 H.t.to] 191 (0,0))]) 13 ?_
 refine W 0 ?_
 refine W 1 ?_
 refine W 2 ?_
 refine W 3 ?_
 refine W 4 ?_
 refine W 6 ?_
 refine V2 5 7 ?_ ?_
 refine OV.step gno (Tl 0 rfl rfl rfl) rfl ?_
 refine Wn ?_
 refine V1 7 ?_
 refine OV.buildSlice (K:=thK) ([({H with t:={H.t with frm:=(P.ss.length:Int)-1}}:TH)]) rfl (Bs64_1_0 _ _ _ _ _ _ _ _) rfl rfl (by omega) gno rfl (fun b18_7=>?_)
 refine Wn ?_
 refine V1 8 ?_
 refine Ye 2 rfl rfl rfl rfl rfl (fun w h=>h.os 8 rfl) (by simp only[List.length_cons,List.length_nil];omega) (fun A2 c2=>?_)
 refine Wn ?_
 refine W 9 ?_
 refine W 10 ?_
 refine W 11 ?_
 refine V1 12 ?_
 refine Yw 0 [_] #[_,_,_,_,_] rfl rfl rfl rfl rfl ?_
 refine Wn ?_
 refine Vd ?_
 refine J5 ?_
 refine Jp rfl ?_
 refine J3 ?_
 refine RV.op (OV.buildSlice (K:=strK) ([s]) rfl (Bs63_1_0 _) rfl rfl (by omega) gno rfl (fun b19_6=>?_))
 refine RV.op (Ye 4 rfl rfl rfl rfl rfl (fun w h=>h.os 9 rfl) (by simp only[List.length_cons,List.length_nil];omega) (fun A3 c3=>?_))
 refine Jp rfl ?_
 refine J1 ?_
 refine Zw 0 [_] #[_,_,_,_,_] ?_
 refine J11 ?_
 refine E0 ?_
 exact KV.ret1 rfl rfl _ (fun _ h=>h.sel [] rfl) (.inr ⟨lm_on hK hnd hks hO,rfl,rfl⟩)
 refine OV.buildSlice (K:=thK) ([({H with t:={H.t with frm:=(P.ss.length:Int)-1}}:TH)]) rfl (Bs64_1_0 _ _ _ _ _ _ _ _) rfl rfl (by omega) gno rfl (fun b18_7=>?_)
 refine Wn ?_
 refine V1 5 ?_
 refine OV.step gno (Tl 0 rfl rfl rfl) rfl ?_
 refine Wn ?_
 refine V1 8 ?_
 refine Ye 2 rfl rfl rfl rfl rfl (fun w h=>h.os 8 rfl) (by simp only[List.length_cons,List.length_nil];omega) (fun A2 c2=>?_)
 refine Wn ?_
 refine W 9 ?_
 refine W 10 ?_
 refine W 11 ?_
 refine V1 12 ?_
 refine Yw 0 [_] #[_,_,_,_,_] rfl rfl rfl rfl rfl ?_
 refine Wn ?_
 refine Vd ?_
 refine J5 ?_
 refine Jp rfl ?_
 refine J3 ?_
 refine RV.op (OV.buildSlice (K:=strK) ([s]) rfl (Bs63_1_0 _) rfl rfl (by omega) gno rfl (fun b19_6=>?_))
 refine RV.op (Ye 4 rfl rfl rfl rfl rfl (fun w h=>h.os 9 rfl) (by simp only[List.length_cons,List.length_nil];omega) (fun A3 c3=>?_))
 refine Jp rfl ?_
 refine J1 ?_
 refine Zw 0 [_] #[_,_,_,_,_] ?_
 refine J11 ?_
 refine E0 ?_
 exact KV.ret1 rfl rfl _ (fun _ h=>h.sel [] rfl) (.inr ⟨lm_on hK hnd hks hO,rfl,rfl⟩)
 refine J14 ?_
 refine E0 ?_
 exact KV.ret1 rfl rfl _ (fun _ h=>h.sel [] rfl) (.inr ⟨lm_no hK hnd hks (by first|exact fun k=>hko k.1|exact fun k=>hss (by have:=List.length_pos_iff.2 k.2;show(0:Int)<(P.ss.length:Int);have h5:P.ps.ss.length=P.ss.length:=rfl;omega)),rfl,rfl⟩)
 refine J15 ?_
 refine J7 ?_
 refine E0 ?_
 exact KV.ret1 rfl rfl _ (fun _ h=>h.sel [] rfl) (.inr ⟨lm_no hK hnd hks (by first|exact fun k=>hko k.1|exact fun k=>hss (by have:=List.length_pos_iff.2 k.2;show(0:Int)<(P.ss.length:Int);have h5:P.ps.ss.length=P.ss.length:=rfl;omega)),rfl,rfl⟩)
 refine J15 ?_
 refine J7 ?_
 refine E0 ?_
 exact KV.ret1 rfl rfl _ (fun _ h=>h.sel [] rfl) (.inr ⟨lm_nonm (by omega) hK,rfl,rfl⟩)
end Go.Proofs.YtkofjhglgoojiaaGreatDoor.Dv
