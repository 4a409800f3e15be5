/-
  Joined.
-/
import Derived.Test.YtkofjhglgoojiaaGreatDoorP39
set_option linter.unusedSimpArgs false
set_option linter.unusedVariables false
namespace Go.Proofs.YtkofjhglgoojiaaGreatDoor.Dv
set_option maxRecDepth 100000
set_option maxHeartbeats 20000000
open Go.Tk Go.Sv Go.Drv
attribute [local irreducible] KV SV OV Step Code.wp wpList Exit.then Exit.inBlock Blk OS Big Bun
theorem ron_fn {A:Option Addr} {c:Nat} {ts:List MT} {w:World} (frm:Int) (hs:RS w rtokK A ts) (hc:ts.length≤c) (ht: ∀x∈ts,tkOk x) (hl:ts.length≤1000000) (h0:0<ts.length) (hnm:kB (tA ts 0)=110):Fx Tryz.prog 120 [.slice A ts.length c,.int .i64 frm] w [] no (fun v L=>(∃x A1 c1,onM (ts.drop 1)=some x∧x.1.ops.length≤ts.length∧v= .tuple #[.agg (lnK.f ⟨⟨{x.1 with frm:=frm},A1,c1⟩,x.2⟩).toArray,.bool true]∧L=[OS 193 roK A1 c1 x.1.ops])∨(onM (ts.drop 1)=none∧ ∃y:LH,y.h.t.ops=[]∧y.h.A=none∧y.h.c=0∧v= .tuple #[.agg (lnK.f y).toArray,.bool false]∧L=[])):=by
 refine Fb ?_
 intro I hro hI
 refine J2 ?_
 refine RV.op (OV.alloc #[.int .i64 0,.string (Sv.bs []),.bool false,.int .u64 0,.int .u64 0,.int .u64 0,.slice none 0 0,.int .i64 0,.string (Sv.bs [])] I227.h rfl gno rfl (fun p=>?_))
 refine J5 ?_
 refine RV.op (OV.alloc #[.int .i64 0,.string (Sv.bs []),.bool false,.int .u64 0,.int .u64 0,.int .u64 0,.slice none 0 0,.int .i64 0,.string (Sv.bs [])] I227.h rfl gno rfl (fun o=>?_))
 refine J7 ?_
 refine Zw 1 [_] #[_,_,_,_,_,_,_,_,_] ?_
 refine J7 ?_
 refine Jlt rfl rfl (fun n1=>?_) (fun n1=>?_)
 refine J12 ?_
 refine Zw 0 [_,_,_,_,_,_,_,_,_] #[_,_,_,_,_,_,_,_,_] ?_
 refine J5 ?_
 refine E1 ?_
 exact KV.retC2 [_,_,_,_,_,_,_,_,_] rfl rfl rfl Tryz.underlying227 rfl I227.h rfl (fun w h=>h.cells 0 rfl) _ (fun _ h=>h.sel [] rfl) (.inr ⟨by first|exact on_short (by rw[List.length_drop];omega)|exact on_head (fun k=>n2 (nn_of h0 (by omega) hnm k)),⟨⟨⟨frm,[],gd0,[],0⟩,none,0⟩,[]⟩,rfl,rfl,rfl,rfl,rfl⟩)
 refine J2 ?_
 refine Jr (Step.sliceHi Tryz.underlying221 I292.h rfl rfl (2) ((show(2:Int)=((2:Nat):Int) from rfl)) (by omega)) ?_
 refine RV.op (Yc [] (F:=[_,_]) rfl rfl (fun w h=>kinds_fn (ts:=ts.take 2) ((h.rs hs fun _=>hI _).take 2) (by rw[List.length_take];omega) (by rw[List.length_take];omega)) (fun v L' hp=>?_))
 obtain⟨rfl,rfl⟩:=hp
 refine RV.op (OV.split (gyes rfl) (Step.neqStr (l2:=[110,110]) rfl rfl) rfl (fun n2=>?_) (fun n2=>?_))
 refine J7 ?_
 refine Zw 0 [_,_,_,_,_,_,_,_,_] #[_,_,_,_,_,_,_,_,_] ?_
 refine J5 ?_
 refine E1 ?_
 exact KV.retC2 [_,_,_,_,_,_,_,_,_] rfl rfl rfl Tryz.underlying227 rfl I227.h rfl (fun w h=>h.cells 0 rfl) _ (fun _ h=>h.sel [] rfl) (.inr ⟨by first|exact on_short (by rw[List.length_drop];omega)|exact on_head (fun k=>n2 (nn_of h0 (by omega) hnm k)),⟨⟨⟨frm,[],gd0,[],0⟩,none,0⟩,[]⟩,rfl,rfl,rfl,rfl,rfl⟩)
 refine J9 ?_
 refine Jr (Ti (fun w h=>(h.rs hs fun _=>hI _)) rfl rfl (by first|rfl|omega) _ (show(1:Int)=((1:Nat):Int) from rfl) (by omega)) ?_
 refine J1 ?_
 refine Jr (Tc rfl (fun w h=>(h.rs hs fun _=>hI _).cell (by omega) rfl)) ?_
 refine J2 ?_
 refine Zw 1 [_] #[_,_,_,_,_,_,_,_,_] ?_
 refine J5 ?_
 refine Jr (Step.sliceLo Tryz.underlying221 I292.h rfl rfl (2) ((show(2:Int)=((2:Nat):Int) from rfl)) (by omega)) ?_
 obtain⟨R,hR⟩: ∃R,R=ts.drop 2:=⟨_,rfl⟩
 have hRl:ts.length-2=R.length:=by rw[hR,List.length_drop]
 have hRS:RS w rtokK (shA A 2 3 c) R:=by rw[hR];exact hs.drop 2 hc
 obtain⟨B1,hB1⟩: ∃B,B=shA A 2 3 c:=⟨_,rfl⟩
 rw[←hB1] at hRS ⊢
 rw[hRl]
 have hRm:R.length≤c-2:=by omega
 have hRok: ∀x∈R,tkOk x:=by rw[hR];exact fun x hx=>ht x (List.mem_of_mem_drop hx)
 have hk2:=kds_at (Decidable.not_not.1 n2) (by omega)
 have h1n:=kB_n (tA_ok ht (show 1<ts.length by omega)) (hk2 1 (by decide))
 have hd1:ts.drop 1= .nm (rtext (tA ts 1))::R:=by rw[tA_cons (show 1<ts.length by omega),←hR];exact congrArg (· ::R) h1n
 refine J3 ?_
 refine CV.join (fun(G:OnG w ts (rtext (tA ts 1)))=>[(0,.slice G.B G.cur.length G.m),(4,.pointer (some ⟨p,0,none⟩)),(6,.pointer (some ⟨o,0,none⟩))]) (fun(G:OnG w ts (rtext (tA ts 1)))=>Hp I w [Blk p (.cells #[.int .i64 0,.string (bs []),.bool false,.int .u64 0,.int .u64 0,.int .u64 0,.slice none 0 0,.int .i64 0,.string (bs [])] 227 (0,0)),Blk o (.cells #[.int .i64 frm,.string (bs (rtext (tA ts 1))),.bool G.g.used,.int .u64 G.g.reg,.int .u64 G.g.mask,.int .u64 G.g.val,.slice none 0 0,.int .i64 0,.string (bs [])] 227 (0,0))]) ?_ ?_
 refine J4 ?_
 refine Jgt rfl rfl (fun g1=>?_) (fun g1=>?_)
 refine J2 ?_
 refine Jr (Step.sliceHi Tryz.underlying221 I292.h rfl rfl (6) ((show(6:Int)=((6:Nat):Int) from rfl)) (by omega)) ?_
 refine RV.op (Yc [] (F:=[_,_]) rfl rfl (fun w h=>kinds_fn (ts:=R.take 6) ((h.rs hRS fun _=>hI _).take 6) (by rw[List.length_take];omega) (by rw[List.length_take];omega)) (fun v L' hp=>?_))
 obtain⟨rfl,rfl⟩:=hp
 refine RV.op (OV.split (gyes rfl) (Step.eqlStr (l2:=[110,100,38,100,61,100]) rfl rfl) rfl (fun g2=>?_) (fun g2=>?_))
 refine J3 ?_
 refine Jr (Ti (fun w h=>(h.rs hRS fun _=>hI _)) rfl rfl (by first|rfl|omega) _ (show(0:Int)=((0:Nat):Int) from rfl) (by omega)) ?_
 refine J1 ?_
 refine Jr (Tc rfl (fun w h=>(h.rs hRS fun _=>hI _).cell (by omega) rfl)) ?_
 refine RV.op (OV.split (gyes rfl) (Step.eqlStr (l2:=[105,102]) rfl rfl) rfl (fun g3=>?_) (fun g3=>?_))
 refine J5 ?_
 refine An (Hp I w []) 16 ?_
 refine W 0 ?_
 refine Wt 1 rfl (Ti (fun w h=>(h.rs hRS fun _=>hI _)) rfl rfl (by first|rfl|omega) _ (show(1:Int)=((1:Nat):Int) from rfl) (by omega)) ?_
 refine W 2 ?_
 refine Wt 3 rfl (Tc rfl (fun w h=>(h.rs hRS fun _=>hI _).cell (by omega) rfl)) ?_
 refine W 4 ?_
 refine Wt 5 rfl (Ti (fun w h=>(h.rs hRS fun _=>hI _)) rfl rfl (by first|rfl|omega) _ (show(3:Int)=((3:Nat):Int) from rfl) (by omega)) ?_
 refine W 6 ?_
 refine Wt 7 rfl (Tc rfl (fun w h=>(h.rs hRS fun _=>hI _).cell (by omega) rfl)) ?_
 refine W 8 ?_
 refine Wt 9 rfl (Ti (fun w h=>(h.rs hRS fun _=>hI _)) rfl rfl (by first|rfl|omega) _ (show(5:Int)=((5:Nat):Int) from rfl) (by omega)) ?_
 refine W 10 ?_
 refine Wt 11 rfl (Tc rfl (fun w h=>(h.rs hRS fun _=>hI _).cell (by omega) rfl)) ?_
 refine Wt 12 rfl (Step.build rfl (Bd188_0_1_2_3 _ _ _ _)) ?_
 refine W 13 ?_
 refine W 14 ?_
 refine V1 15 ?_
 refine Yw 1 [_,_,_,_] #[_,_,_,_,_,_,_,_,_] rfl rfl rfl rfl rfl ?_
 refine Wn ?_
 refine Vd ?_
 refine J3 ?_
 refine Jr (Step.sliceLo Tryz.underlying221 I292.h rfl rfl (6) ((show(6:Int)=((6:Nat):Int) from rfl)) (by omega)) ?_
 refine J3 ?_
 refine E2 ?_
 exact KV.join (⟨⟨true,tnum (tA R 1),tnum (tA R 3),tnum (tA R 5)⟩,R.drop 6,shA B1 6 3 (c-2),c-2-6,hRS.drop 6 hRm,by rw[List.length_drop];omega,fun x hx=>hRok x (List.mem_of_mem_drop hx),by rw[List.length_drop];omega,by rw[hd1];exact on_yes hRok (by omega) g2 g3⟩) ⟨(by first|rfl|(show _=some (Value.slice (shA B1 6 3 (c-2)) (R.drop 6).length (c-2-6));rw[List.length_drop];rfl)),rfl,rfl,trivial⟩ (fun _ h=>h)
 refine J6 ?_
 refine E2 ?_
 exact KV.join (⟨gd0,R,B1,c-2,hRS,hRm,hRok,by omega,by rw[hd1];exact on_no (by first|exact fun k=>g3 k.2.2|exact fun k=>g2 k.2.1|exact fun k=>absurd k.1 (by omega))⟩) ⟨(by first|rfl|(show _=some (Value.slice (shA B1 6 3 (c-2)) (R.drop 6).length (c-2-6));rw[List.length_drop];rfl)),rfl,rfl,trivial⟩ (fun _ h=>h)
 refine J13 ?_
 refine E2 ?_
 exact KV.join (⟨gd0,R,B1,c-2,hRS,hRm,hRok,by omega,by rw[hd1];exact on_no (by first|exact fun k=>g3 k.2.2|exact fun k=>g2 k.2.1|exact fun k=>absurd k.1 (by omega))⟩) ⟨(by first|rfl|(show _=some (Value.slice (shA B1 6 3 (c-2)) (R.drop 6).length (c-2-6));rw[List.length_drop];rfl)),rfl,rfl,trivial⟩ (fun _ h=>h)
 refine J15 ?_
 refine J3 ?_
 refine E2 ?_
 exact KV.join (⟨gd0,R,B1,c-2,hRS,hRm,hRok,by omega,by rw[hd1];exact on_no (by first|exact fun k=>g3 k.2.2|exact fun k=>g2 k.2.1|exact fun k=>absurd k.1 (by omega))⟩) ⟨(by first|rfl|(show _=some (Value.slice (shA B1 6 3 (c-2)) (R.drop 6).length (c-2-6));rw[List.length_drop];rfl)),rfl,rfl,trivial⟩ (fun _ h=>h)
 intro G
 refine J5 ?_
 refine Jlt rfl rfl (fun f1=>?_) (fun f1=>?_)
 refine J12 ?_
 refine Zw 0 [_,_,_,_,_,_,_,_,_] #[_,_,_,_,_,_,_,_,_] ?_
 refine J5 ?_
 refine E1 ?_
 exact KV.retC2 [_,_,_,_,_,_,_,_,_] rfl rfl rfl Tryz.underlying227 rfl I227.h rfl (fun w h=>h.cells 0 rfl) _ (fun _ h=>h.sel [] rfl) (.inr ⟨by rw[G.res];exact onT_bad (by first|exact fun k=>f2 k.2|exact fun k=>absurd k.1 (by omega)),⟨⟨⟨frm,(rtext (tA ts 1)),G.g,[],0⟩,none,0⟩,[]⟩,rfl,rfl,rfl,rfl,rfl⟩)
 have hGl:=G.len
 refine J2 ?_
 refine Jr (Step.sliceHi Tryz.underlying221 I292.h rfl rfl (2) ((show(2:Int)=((2:Nat):Int) from rfl)) (by have:=G.cap;omega)) ?_
 refine RV.op (Yc [] (F:=[_,_]) rfl rfl (fun w h=>kinds_fn (ts:=G.cur.take 2) ((h.rs G.rs fun _=>hI _).take 2) (by rw[List.length_take];omega) (by rw[List.length_take];omega)) (fun v L' hp=>?_))
 obtain⟨rfl,rfl⟩:=hp
 refine RV.op (OV.split (gyes rfl) (Step.neqStr (l2:=[62,110]) rfl rfl) rfl (fun f2=>?_) (fun f2=>?_))
 refine J7 ?_
 refine Zw 0 [_,_,_,_,_,_,_,_,_] #[_,_,_,_,_,_,_,_,_] ?_
 refine J5 ?_
 refine E1 ?_
 exact KV.retC2 [_,_,_,_,_,_,_,_,_] rfl rfl rfl Tryz.underlying227 rfl I227.h rfl (fun w h=>h.cells 0 rfl) _ (fun _ h=>h.sel [] rfl) (.inr ⟨by rw[G.res];exact onT_bad (by first|exact fun k=>f2 k.2|exact fun k=>absurd k.1 (by omega)),⟨⟨⟨frm,(rtext (tA ts 1)),G.g,[],0⟩,none,0⟩,[]⟩,rfl,rfl,rfl,rfl,rfl⟩)
 refine J9 ?_
 refine Jr (Ti (fun w h=>(h.rs G.rs fun _=>hI _)) rfl rfl (by first|rfl|omega) _ (show(1:Int)=((1:Nat):Int) from rfl) (by omega)) ?_
 refine J1 ?_
 refine Jr (Tc rfl (fun w h=>(h.rs G.rs fun _=>hI _).cell (by omega) rfl)) ?_
 refine J1 ?_
 refine Zw 1 [_] #[_,_,_,_,_,_,_,_,_] ?_
 refine J3 ?_
 have hg2:G.cur.length-2=(G.cur.drop 2).length:=List.length_drop.symm
 refine J2 ?_
 refine Jr (Step.sliceLo Tryz.underlying221 I292.h rfl rfl (2) ((show(2:Int)=((2:Nat):Int) from rfl)) (by omega)) ?_
 rw[hg2]
 refine RV.op (Yc [] (F:=[_,_]) rfl rfl (fun w h=>roperations_fn (ts:=G.cur.drop 2) (h.rs (G.rs.drop 2 G.cap) fun _=>hI _) (by rw[List.length_drop];have:=G.cap;omega) (fun x hx=>G.ok x (List.mem_of_mem_drop hx)) (by rw[List.length_drop];omega)) (fun v L' hp=>?_))
 rcases hp with ⟨oo,A1,c1,htl,hol,rfl,rfl⟩|⟨htl,rfl,rfl⟩
 refine J12 ?_
 refine Zw 1 [_] #[_,_,_,_,_,_,_,_,_] ?_
 refine J6 ?_
 refine Zw 0 [_,_,_,_,_,_,_,_,_] #[_,_,_,_,_,_,_,_,_] ?_
 refine J4 ?_
 refine K2 [0,1] rfl ?_
 have hgo:=onT_ok (e:=(rtext (tA ts 1))) (g:=G.g) G.ok (by omega) (Decidable.not_not.1 f2)
 rw[htl] at hgo
 exact KV.retC2 [_,_,_,_,_,_,_,_,_] rfl rfl rfl Tryz.underlying227 rfl I227.h rfl (fun w h=>h.cells 0 rfl) _ (fun _ h=>h.sel [1] rfl) (.inl ⟨_,A1,c1,G.res.trans hgo,by rw[List.length_drop] at hol;show oo.length≤_;omega,rfl,rfl⟩)
 simp only[List.append_nil]
 refine J12 ?_
 refine Zw 1 [_] #[_,_,_,_,_,_,_,_,_] ?_
 refine J6 ?_
 refine Zw 0 [_,_,_,_,_,_,_,_,_] #[_,_,_,_,_,_,_,_,_] ?_
 refine J4 ?_
 refine E1 ?_
 have hgo:=onT_ok (e:=(rtext (tA ts 1))) (g:=G.g) G.ok (by omega) (Decidable.not_not.1 f2)
 rw[htl] at hgo
 exact KV.retC2 [_,_,_,_,_,_,_,_,_] rfl rfl rfl Tryz.underlying227 rfl I227.h rfl (fun w h=>h.cells 0 rfl) _ (fun _ h=>h.sel [] rfl) (.inr ⟨G.res.trans hgo,⟨⟨⟨frm,(rtext (tA ts 1)),G.g,[],0⟩,none,0⟩,(rtext (tA G.cur 1))⟩,rfl,rfl,rfl,rfl,rfl⟩)
end Go.Proofs.YtkofjhglgoojiaaGreatDoor.Dv
