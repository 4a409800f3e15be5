/-
  Joined.
-/
import Derived.Test.YtkofjhglgoojiaaGreatDoorP13
set_option linter.unusedSimpArgs false
set_option linter.unusedVariables false
namespace Go.Proofs.YtkofjhglgoojiaaGreatDoor.Dv
set_option maxRecDepth 100000
set_option maxHeartbeats 20000000
open Go.Tk Go.Sv Go.Drv
attribute [local irreducible] KV SV OV Step Code.wp wpList Exit.then Exit.inBlock Blk OS Big Bun
theorem operation_fn {q:Nat} {A:Option Addr} {c i:Nat} {ts:List MT} {w:World} (ht: ∀x∈ts,tkOk x) (hi:i≤ts.length) (hl:ts.length≤1000000):Fx Tryz.prog 199 [.pointer (some ⟨q,0,none⟩)] w [Blk q (.cells #[.slice A ts.length c,.int .i64 (((i:Nat):Int))] 376 (0,0)),OS 370 tokK A c ts] no (fun v L=>(∃(o:Ro) (k:Nat),opM (ts.drop i)=some (o,ts.drop k)∧i<k∧k≤ts.length∧v= .tuple #[.agg #[.bool o.wr,.int .u64 o.reg,.int .u64 o.val],.bool true]∧L=[Blk q (.cells #[.slice A ts.length c,.int .i64 (((k:Nat):Int))] 376 (0,0)),OS 370 tokK A c ts])∨(opM (ts.drop i)=none∧ ∃(o:Ro) (k:Nat),k≤ts.length∧v= .tuple #[.agg #[.bool o.wr,.int .u64 o.reg,.int .u64 o.val],.bool false]∧L=[Blk q (.cells #[.slice A ts.length c,.int .i64 (((k:Nat):Int))] 376 (0,0)),OS 370 tokK A c ts])):=by
 refine Fb ?_
 intro I hro hI
 refine J2 ?_
 refine RV.op (Ya (fun p=>?_))
 refine J5 ?_
 refine RV.op (Ya (fun z=>?_))
 refine J6 ?_
 refine RV.op (Yc [0,0] (F:=[_,_]) rfl rfl (fun w h=>accept_fn (.nm sWrite) trivial ht (by omega) hl) (fun v L' hp=>?_))
 rcases hp with ⟨hA,hAl,rfl,rfl⟩|⟨hA,rfl,rfl⟩
 refine J6 ?_
 refine Zw 1 [_] #[_,_,_] ?_
 refine J6 ?_
 refine RV.op (Yc [2,2,1] (F:=[_]) rfl rfl (fun w h=>number_fn (fun v=> #[.bool true,.int .u64 v,.int .u64 0]) (by exact Nat.le_of_ble_eq_true rfl) (fun _=>rfl) (by omega) hl) (fun v L' hp=>?_))
 rcases hp with ⟨x1,hN1,hN1l,rfl,rfl⟩|⟨hN1,rfl,rfl⟩
 refine J3 ?_
 refine RV.op (Yc [1,1,1] (F:=[_]) rfl rfl (fun w h=>number_fn (fun v=> #[.bool true,.int .u64 x1,.int .u64 v]) (by exact Nat.le_of_ble_eq_true rfl) (fun _=>rfl) (by omega) hl) (fun v L' hp=>?_))
 rcases hp with ⟨x2,hN2,hN2l,rfl,rfl⟩|⟨hN2,rfl,rfl⟩
 refine J8 ?_
 refine Zw 0 [_,_,_] #[_,_,_] ?_
 refine J5 ?_
 refine E3 ?_
 exact KV.retC2 [_,_,_] rfl rfl rfl Tryz.underlying193 rfl I193.h rfl (fun w h=>h.cells 0 rfl) _ (fun _ h=>h.sel [1,1] rfl) (.inl ⟨⟨true,x1,x2⟩,i+1+1+1,op_w_yes hA hN1 hN2,by omega,by omega,rfl,rfl⟩)
 refine J8 ?_
 refine Zw 0 [_,_,_] #[_,_,_] ?_
 refine J5 ?_
 refine E3 ?_
 exact KV.retC2 [_,_,_] rfl rfl rfl Tryz.underlying193 rfl I193.h rfl (fun w h=>h.cells 0 rfl) _ (fun _ h=>h.sel [1,1] rfl) (.inr ⟨op_w_no2 hA hN1 hN2,⟨true,x1,0⟩,i+1+1,by omega,rfl,rfl⟩)
 refine J12 ?_
 refine Zw 0 [_,_,_] #[_,_,_] ?_
 refine J5 ?_
 refine E3 ?_
 exact KV.retC2 [_,_,_] rfl rfl rfl Tryz.underlying193 rfl I193.h rfl (fun w h=>h.cells 0 rfl) _ (fun _ h=>h.sel [1,1] rfl) (.inr ⟨op_no1 hA hN1,⟨true,0,0⟩,i+1,by omega,rfl,rfl⟩)
 refine J8 ?_
 refine RV.op (Yc [2,2] (F:=[_,_]) rfl rfl (fun w h=>accept_fn (.nm sRead) trivial ht (by omega) hl) (fun v L' hp=>?_))
 rcases hp with ⟨hB,hBl,rfl,rfl⟩|⟨hB,rfl,rfl⟩
 refine J3 ?_
 refine RV.op (Yc [2,2,1] (F:=[_]) rfl rfl (fun w h=>number_fn (fun v=> #[.bool false,.int .u64 v,.int .u64 0]) (by exact Nat.le_of_ble_eq_true rfl) (fun _=>rfl) (by omega) hl) (fun v L' hp=>?_))
 rcases hp with ⟨x1,hN1,hN1l,rfl,rfl⟩|⟨hN1,rfl,rfl⟩
 refine J8 ?_
 refine Zw 0 [_,_,_] #[_,_,_] ?_
 refine J4 ?_
 refine E3 ?_
 exact KV.retC2 [_,_,_] rfl rfl rfl Tryz.underlying193 rfl I193.h rfl (fun w h=>h.cells 0 rfl) _ (fun _ h=>h.sel [1,1] rfl) (.inl ⟨⟨false,x1,0⟩,i+1+1,op_r_yes hB hN1,by omega,by omega,rfl,rfl⟩)
 refine J8 ?_
 refine Zw 0 [_,_,_] #[_,_,_] ?_
 refine J4 ?_
 refine E3 ?_
 exact KV.retC2 [_,_,_] rfl rfl rfl Tryz.underlying193 rfl I193.h rfl (fun w h=>h.cells 0 rfl) _ (fun _ h=>h.sel [1,1] rfl) (.inr ⟨op_no1 hB hN1,⟨false,0,0⟩,i+1,by omega,rfl,rfl⟩)
 refine J12 ?_
 refine Zw 0 [_,_,_] #[_,_,_] ?_
 refine J4 ?_
 refine K3 [0,1,1] rfl ?_
 exact KV.retC2 [_,_,_] rfl rfl rfl Tryz.underlying193 rfl I193.h rfl (fun w h=>h.cells 0 rfl) _ (fun _ h=>h.sel [1,1] rfl) (.inr ⟨op_no hA hB,⟨false,0,0⟩,i,by omega,rfl,rfl⟩)
theorem transition_fn {q:Nat} {A:Option Addr} {c i:Nat} {ts:List MT} {w:World} (ht: ∀x∈ts,tkOk x) (hi:i≤ts.length) (hl:ts.length≤1000000):Fx Tryz.prog 182 [.pointer (some ⟨q,0,none⟩)] w [Blk q (.cells #[.slice A ts.length c,.int .i64 (((i:Nat):Int))] 376 (0,0)),OS 370 tokK A c ts] no (fun v L=>(∃(h:TH) (s:Bs) (k:Nat),onM (ts.drop i)=some (h.t,s)∧k≤ts.length∧v= .tuple #[.agg #[.int .i64 h.t.frm,.string (bs h.t.ev),.bool h.t.gd.used,.int .u64 h.t.gd.reg,.int .u64 h.t.gd.mask,.int .u64 h.t.gd.val,.slice h.A h.t.ops.length h.c,.int .i64 h.t.to],.string (bs s),.bool true]∧L=[Blk q (.cells #[.slice A ts.length c,.int .i64 (((k:Nat):Int))] 376 (0,0)),OS 370 tokK A c ts,OS 193 roK h.A h.c h.t.ops])∨(onM (ts.drop i)=none∧ ∃(h:TH) (s:Bs) (k:Nat),k≤ts.length∧v= .tuple #[.agg #[.int .i64 h.t.frm,.string (bs h.t.ev),.bool h.t.gd.used,.int .u64 h.t.gd.reg,.int .u64 h.t.gd.mask,.int .u64 h.t.gd.val,.slice h.A h.t.ops.length h.c,.int .i64 h.t.to],.string (bs s),.bool false]∧L=[Blk q (.cells #[.slice A ts.length c,.int .i64 (((k:Nat):Int))] 376 (0,0)),OS 370 tokK A c ts])):=by
 refine Fb ?_
 intro I hro hI
 refine J2 ?_
 refine RV.op (OV.alloc #[.int .i64 0,.string (Sv.bs []),.bool false,.int .u64 0,.int .u64 0,.int .u64 0,.slice none 0 0,.int .i64 0] I191.h rfl gno rfl (fun p=>?_))
 refine Jr (Step.assign (v:= .string (Sv.bs [])) rfl) ?_
 refine J5 ?_
 refine RV.op (OV.alloc #[.int .i64 0,.string (Sv.bs []),.bool false,.int .u64 0,.int .u64 0,.int .u64 0,.slice none 0 0,.int .i64 0] I191.h rfl gno rfl (fun t=>?_))
 refine J11 ?_
 refine RV.op (Yc [0,0] (F:=[_,_]) rfl rfl (fun w h=>name_fn (by omega) hl) (fun v L' hp=>?_))
 rcases hp with ⟨e,hE,hEl,rfl,rfl⟩|⟨hE,rfl,rfl⟩
 refine J4 ?_
 refine Zw 1 [_] #[_,_,_,_,_,_,_,_] ?_
 refine J12 ?_
 refine CV.join (fun(Z:{z:Gd×Nat//onM (ts.drop i)=onT e z.1 (ts.drop z.2)∧i<z.2∧z.2≤ts.length})=>[(0,.pointer (some ⟨q,0,none⟩)),(2,.pointer (some ⟨p,0,none⟩)),(5,.pointer (some ⟨t,0,none⟩))]) (fun(Z:{z:Gd×Nat//onM (ts.drop i)=onT e z.1 (ts.drop z.2)∧i<z.2∧z.2≤ts.length})=>Hp I w [Blk q (.cells #[.slice A ts.length c,.int .i64 (((Z.1.2:Nat):Int))] 376 (0,0)),OS 370 tokK A c ts,Blk p (.cells #[.int .i64 0,.string (bs []),.bool false,.int .u64 0,.int .u64 0,.int .u64 0,.slice none 0 0,.int .i64 0] 191 (0,0)),Blk t (.cells #[.int .i64 0,.string (bs e),.bool Z.1.1.used,.int .u64 Z.1.1.reg,.int .u64 Z.1.1.mask,.int .u64 Z.1.1.val,.slice none 0 0,.int .i64 0] 191 (0,0))]) ?_ ?_
 refine J3 ?_
 refine RV.op (Yc [2,2] (F:=[_,_]) rfl rfl (fun w h=>accept_fn (.nm sIf) trivial ht (by omega) hl) (fun v L' hp=>?_))
 rcases hp with ⟨hIf,hIfl,rfl,rfl⟩|⟨hIf,rfl,rfl⟩
 refine J7 ?_
 refine Zw 1 [_] #[_,_,_,_,_,_,_,_] ?_
 refine J7 ?_
 refine RV.op (Yc [2,2,1] (F:=[_]) rfl rfl (fun w h=>number_fn (fun v=> #[.int .i64 0,.string (bs e),.bool true,.int .u64 (v),.int .u64 (0),.int .u64 (0),.slice none 0 0,.int .i64 0]) (by exact Nat.le_of_ble_eq_true rfl) (fun _=>rfl) (by omega) hl) (fun v L' hp=>?_))
 rcases hp with ⟨x1,hN1,hN1l,rfl,rfl⟩|⟨hN1,rfl,rfl⟩
 refine J3 ?_
 refine RV.op (Yc [1,1] (F:=[_,_]) rfl rfl (fun w h=>accept_fn (.sym 38) (.inr (.inr (.inl rfl))) ht (by omega) hl) (fun v L' hp=>?_))
 rcases hp with ⟨hS1,hS1l,rfl,rfl⟩|⟨hS1,rfl,rfl⟩
 refine J6 ?_
 refine RV.op (Yc [2,2,1] (F:=[_]) rfl rfl (fun w h=>number_fn (fun v=> #[.int .i64 0,.string (bs e),.bool true,.int .u64 (x1),.int .u64 (v),.int .u64 (0),.slice none 0 0,.int .i64 0]) (by exact Nat.le_of_ble_eq_true rfl) (fun _=>rfl) (by omega) hl) (fun v L' hp=>?_))
 rcases hp with ⟨x2,hN2,hN2l,rfl,rfl⟩|⟨hN2,rfl,rfl⟩
 refine J4 ?_
 refine RV.op (Yc [1,1] (F:=[_,_]) rfl rfl (fun w h=>accept_fn (.sym 61) (.inr (.inr (.inr (.inl rfl)))) ht (by omega) hl) (fun v L' hp=>?_))
 rcases hp with ⟨hS2,hS2l,rfl,rfl⟩|⟨hS2,rfl,rfl⟩
 refine J6 ?_
 refine RV.op (Yc [2,2,1] (F:=[_]) rfl rfl (fun w h=>number_fn (fun v=> #[.int .i64 0,.string (bs e),.bool true,.int .u64 (x1),.int .u64 (x2),.int .u64 (v),.slice none 0 0,.int .i64 0]) (by exact Nat.le_of_ble_eq_true rfl) (fun _=>rfl) (by omega) hl) (fun v L' hp=>?_))
 rcases hp with ⟨x3,hN3,hN3l,rfl,rfl⟩|⟨hN3,rfl,rfl⟩
 refine J7 ?_
 refine K4 [1,1,0,0] rfl ?_
 exact KV.join (⟨(⟨true,x1,x2,x3⟩,_),on_g1 hE (by rw[hIf,hN1,hS1,hN2,hS2,hN3]),by omega,by omega⟩) (sb rfl) (fun _ h=>h)
 refine J8 ?_
 refine Zw 0 [_,_,_,_,_,_,_,_] #[_,_,_,_,_,_,_,_] ?_
 refine Jr (Step.assign (v:= .string (Sv.bs [])) rfl) ?_
 refine J5 ?_
 refine E3 ?_
 exact KV.retC3 [_,_,_,_,_,_,_,_] rfl rfl rfl rfl Tryz.underlying191 rfl I191.h rfl (fun w h=>h.cells 0 rfl) _ (fun _ h=>h.sel [1,1] rfl) (.inr ⟨on_gn hE hIf (fun a m v r h=>by rw[hN1] at h;injection h with _ h;rw[hS1] at h;injection h with _ h;rw[hN2] at h;injection h with _ h;rw[hS2] at h;injection h with _ h;exact hN3 _ _ h),⟨⟨0,e,⟨true,x1,x2,0⟩,[],0⟩,none,0⟩,[],_,by omega,rfl,rfl⟩)
 refine J15 ?_
 refine Zw 0 [_,_,_,_,_,_,_,_] #[_,_,_,_,_,_,_,_] ?_
 refine Jr (Step.assign (v:= .string (Sv.bs [])) rfl) ?_
 refine J5 ?_
 refine K3 [0,1,1] rfl ?_
 exact KV.retC3 [_,_,_,_,_,_,_,_] rfl rfl rfl rfl Tryz.underlying191 rfl I191.h rfl (fun w h=>h.cells 0 rfl) _ (fun _ h=>h.sel [1,1] rfl) (.inr ⟨on_gn hE hIf (fun a m v r h=>by rw[hN1] at h;injection h with _ h;rw[hS1] at h;injection h with _ h;rw[hN2] at h;injection h with _ h;exact hS2 _ h),⟨⟨0,e,⟨true,x1,x2,0⟩,[],0⟩,none,0⟩,[],_,by omega,rfl,rfl⟩)
 refine J15 ?_
 refine J5 ?_
 refine Zw 0 [_,_,_,_,_,_,_,_] #[_,_,_,_,_,_,_,_] ?_
 refine Jr (Step.assign (v:= .string (Sv.bs [])) rfl) ?_
 refine J5 ?_
 refine E3 ?_
 exact KV.retC3 [_,_,_,_,_,_,_,_] rfl rfl rfl rfl Tryz.underlying191 rfl I191.h rfl (fun w h=>h.cells 0 rfl) _ (fun _ h=>h.sel [1,1] rfl) (.inr ⟨on_gn hE hIf (fun a m v r h=>by rw[hN1] at h;injection h with _ h;rw[hS1] at h;injection h with _ h;exact hN2 _ _ h),⟨⟨0,e,⟨true,x1,0,0⟩,[],0⟩,none,0⟩,[],_,by omega,rfl,rfl⟩)
 refine J15 ?_
 refine J12 ?_
 refine Zw 0 [_,_,_,_,_,_,_,_] #[_,_,_,_,_,_,_,_] ?_
 refine Jr (Step.assign (v:= .string (Sv.bs [])) rfl) ?_
 refine J5 ?_
 refine K3 [0,1,1] rfl ?_
 exact KV.retC3 [_,_,_,_,_,_,_,_] rfl rfl rfl rfl Tryz.underlying191 rfl I191.h rfl (fun w h=>h.cells 0 rfl) _ (fun _ h=>h.sel [1,1] rfl) (.inr ⟨on_gn hE hIf (fun a m v r h=>by rw[hN1] at h;injection h with _ h;exact hS1 _ h),⟨⟨0,e,⟨true,x1,0,0⟩,[],0⟩,none,0⟩,[],_,by omega,rfl,rfl⟩)
 refine J15 ?_
 refine J15 ?_
 refine J1 ?_
 refine Zw 0 [_,_,_,_,_,_,_,_] #[_,_,_,_,_,_,_,_] ?_
 refine Jr (Step.assign (v:= .string (Sv.bs [])) rfl) ?_
 refine J5 ?_
 refine E3 ?_
 exact KV.retC3 [_,_,_,_,_,_,_,_] rfl rfl rfl rfl Tryz.underlying191 rfl I191.h rfl (fun w h=>h.cells 0 rfl) _ (fun _ h=>h.sel [1,1] rfl) (.inr ⟨on_gn hE hIf (fun a m v r h=>hN1 _ _ h),⟨⟨0,e,⟨true,0,0,0⟩,[],0⟩,none,0⟩,[],_,by omega,rfl,rfl⟩)
 refine J5 ?_
 refine K4 [2,2,0,0] rfl ?_
 exact KV.join (⟨(gd0,i+1),on_g0 hE hIf,by omega,by omega⟩) (sb rfl) (fun _ h=>h)
 intro Z
 have hZ:=Z.2
 refine J4 ?_
 refine RV.op (Yc [0,0] (F:=[_,_]) rfl rfl (fun w h=>accept_fn (.sym 62) (.inr (.inr (.inr (.inr rfl)))) ht (by omega) hl) (fun v L' hp=>?_))
 rcases hp with ⟨hAr,hArl,rfl,rfl⟩|⟨hAr,rfl,rfl⟩
 refine J9 ?_
 refine RV.op (Yc [2,2] (F:=[_,_]) rfl rfl (fun w h=>name_fn (by omega) hl) (fun v L' hp=>?_))
 rcases hp with ⟨tg_,hTg,hTgl,rfl,rfl⟩|⟨hTg,rfl,rfl⟩
 refine J15 ?_
 refine J2 ?_
 refine CV.join (fun(Y:{y:OZ//(onM (ts.drop i))=(if y.n=ts.length then some (onR e Z.1.1 tg_ y.ls) else none)∧y.n≤ts.length})=>[(0,.pointer (some ⟨q,0,none⟩)),(2,.pointer (some ⟨p,0,none⟩)),(5,.pointer (some ⟨t,0,none⟩)),(7,.string (bs tg_))]) (fun(Y:{y:OZ//(onM (ts.drop i))=(if y.n=ts.length then some (onR e Z.1.1 tg_ y.ls) else none)∧y.n≤ts.length})=>Hp I w [Blk q (.cells #[.slice A ts.length c,.int .i64 (((Y.1.n:Nat):Int))] 376 (0,0)),OS 370 tokK A c ts,Blk p (.cells #[.int .i64 0,.string (bs []),.bool false,.int .u64 0,.int .u64 0,.int .u64 0,.slice none 0 0,.int .i64 0] 191 (0,0)),Blk t (.cells #[.int .i64 0,.string (bs e),.bool Z.1.1.used,.int .u64 Z.1.1.reg,.int .u64 Z.1.1.mask,.int .u64 Z.1.1.val,.slice Y.1.A Y.1.ls.length Y.1.c,.int .i64 0] 191 (0,0)),OS 193 roK Y.1.A Y.1.c Y.1.ls]) ?_ ?_
 refine J1 ?_
 refine KV.heap (fun w h=>h.nilOS (e:=193) (K:=roK)) ?_
 refine J2 ?_
 refine RV.op (Yc [2,2] (F:=[_,_,_]) rfl rfl (fun w h=>accept_fn (.sym 58) (.inl rfl) ht (by omega) hl) (fun v L' hp=>?_))
 rcases hp with ⟨hCo,hCol,rfl,rfl⟩|⟨hCo,rfl,rfl⟩
 refine J9 ?_
 refine K5 [3,3,0,0,0] rfl ?_
 refine CV.loop2 (fun(O:OZ) (b:Bool)=>O.n≤ts.length∧O.ls.length≤O.n∧LIv (onM (ts.drop i)) e Z.1.1 tg_ ts O.ls O.n b) (fun(O:OZ) (b:Bool)=>ts.length-O.n) (fun(O:OZ) (b:Bool)=>[(0,.pointer (some ⟨q,0,none⟩)),(2,.pointer (some ⟨p,0,none⟩)),(5,.pointer (some ⟨t,0,none⟩)),(7,.string (bs tg_)),(8,.bool b)]) (fun(O:OZ) (b:Bool)=>Hp I w [Blk q (.cells #[.slice A ts.length c,.int .i64 (((O.n:Nat):Int))] 376 (0,0)),OS 370 tokK A c ts,Blk p (.cells #[.int .i64 0,.string (bs []),.bool false,.int .u64 0,.int .u64 0,.int .u64 0,.slice none 0 0,.int .i64 0] 191 (0,0)),Blk t (.cells #[.int .i64 0,.string (bs e),.bool Z.1.1.used,.int .u64 Z.1.1.reg,.int .u64 Z.1.1.mask,.int .u64 Z.1.1.val,.slice O.A O.ls.length O.c,.int .i64 0] 191 (0,0)),OS 193 roK O.A O.c O.ls]) (⟨[],none,0,Z.1.2+1+1+1⟩) (true) ⟨by show Z.1.2+1+1+1≤ts.length;omega,Nat.zero_le _,LIv.start (hZ.1.trans (onT_yes hAr hTg)) hCo⟩ (sb rfl) (fun _ h=>h) ?_
 intro O b hinv
 refine J6 ?_
 refine KV.cases 68 rfl (fun cc1=>?_) (fun cc1=>?_)
 have hL:=hinv.2.2
 rw[cc1] at hL
 refine J8 ?_
 refine RV.op (Yc [0,0] (F:=[_,_,_]) rfl rfl (fun w h=>operation_fn ht (by omega) hl) (fun v L' hp=>?_))
 rcases hp with ⟨o,k,hO,hk1,hk2,rfl,rfl⟩|⟨hO,o,k,hk2,rfl,rfl⟩
 refine J3 ?_
 refine RV.op (Ya (fun y=>?_))
 refine Zw 5 [_,_,_] #[_,_,_] ?_
 refine J15 ?_
 refine J2 ?_
 refine RV.op (OV.buildSlice (K:=roK) ([o]) rfl (Bs189_1_0 _ _ _) rfl rfl (by omega) gno rfl (fun yy=>?_))
 refine RV.op (Ye 2 rfl rfl rfl rfl rfl (fun w h=>h.os 6 rfl) (by simp only[List.length_cons,List.length_nil];omega) (fun A2 c2=>?_))
 refine J1 ?_
 refine Zw 1 [_] #[_,_,_,_,_,_,_,_] ?_
 refine J5 ?_
 refine RV.op (Yc [3,3] (F:=[_,_,_,_,_]) rfl rfl (fun w h=>accept_fn (.sym 59) (.inr (.inl rfl)) ht (by omega) hl) (fun v L' hp=>?_))
 rcases hp with ⟨hSc,hScl,rfl,rfl⟩|⟨hSc,rfl,rfl⟩
 refine J3 ?_
 refine K5 [5,5,0,0,0] rfl ?_
 exact KV.loop2 (x:=O) (y:=b) (⟨O.ls++[o],A2,c2,k+1⟩) (true) ⟨by show k+1≤ts.length;omega,by show(O.ls++[o]).length≤k+1;rw[List.length_append];show _+1≤_;omega,hL.more hO hk1 hScl hSc⟩ (by show ts.length-(k+1)<_;omega) (sb rfl) (fun _ h=>h)
 refine J3 ?_
 refine K5 [5,5,0,0,0] rfl ?_
 exact KV.loop2 (x:=O) (y:=b) (⟨O.ls++[o],A2,c2,k⟩) (false) ⟨by show k≤ts.length;omega,by show(O.ls++[o]).length≤k;rw[List.length_append];show _+1≤_;omega,hL.last hO hk2 hSc⟩ (by show ts.length-k<_;omega) (sb rfl) (fun _ h=>h)
 refine J3 ?_
 refine RV.op (Ya (fun y=>?_))
 refine Zw 5 [_,_,_] #[_,_,_] ?_
 refine J14 ?_
 refine Zw 0 [_,_,_,_,_,_,_,_] #[_,_,_,_,_,_,_,_] ?_
 refine Jr (Step.assign (v:= .string (Sv.bs [])) rfl) ?_
 refine J10 ?_
 refine K3 [0,2,2] rfl ?_
 exact KV.retC3 [_,_,_,_,_,_,_,_] rfl rfl rfl rfl Tryz.underlying191 rfl I191.h rfl (fun w h=>h.cells 0 rfl) _ (fun _ h=>h.sel [1,1] rfl) (.inr ⟨hL.bad hO,⟨⟨0,e,Z.1.1,O.ls,0⟩,O.A,O.c⟩,[],_,by omega,rfl,rfl⟩)
 have hL:=hinv.2.2
 rw[cc1] at hL
 refine J6 ?_
 refine E5 ?_
 exact KV.join (⟨O,hL.2 rfl,by omega⟩) (sb rfl) (fun _ h=>h)
 refine J5 ?_
 refine K5 [3,3,0,0,0] rfl ?_
 exact KV.join (⟨⟨[],none,0,Z.1.2+1+1⟩,hZ.1.trans ((onT_yes hAr hTg).trans (by rw[tail_no (by omega) hCo];split<;>rfl)),by show Z.1.2+1+1≤ts.length;omega⟩) (sb rfl) (fun _ h=>h)
 intro Y
 have hY:=Y.2
 refine J1 ?_
 refine An (Hp I w [Blk q (.cells #[.slice A ts.length c,.int .i64 (((Y.1.n:Nat):Int))] 376 (0,0)),Blk t (.cells #[.int .i64 0,.string (bs e),.bool Z.1.1.used,.int .u64 Z.1.1.reg,.int .u64 Z.1.1.mask,.int .u64 Z.1.1.val,.slice Y.1.A Y.1.ls.length Y.1.c,.int .i64 0] 191 (0,0))]) 7 ?_
 refine W 0 ?_
 refine W 1 ?_
 refine W 2 ?_
 refine V1 3 ?_
 refine Yc [] (F:=[_,_,_,_,_]) rfl rfl (fun w h=>atEnd_fn (h.blk 0 rfl)) (fun v L' hp=>?_)
 obtain⟨rfl,rfl⟩:=hp
 refine Wn ?_
 refine V1 4 ?_
 refine Yw 2 [_,_,_,_,_,_,_,_] #[_,_,_,_,_,_,_,_] rfl rfl rfl rfl rfl ?_
 refine Wn ?_
 refine V1 5 ?_
 refine OV.step gno (Ta rfl) rfl ?_
 refine Wn ?_
 refine V1 6 ?_
 refine OV.step gno (Ta rfl) rfl ?_
 refine Wn ?_
 refine Vd ?_
 refine J2 ?_
 refine K4 [2,0,0,1] rfl ?_
 by_cases hend:Y.1.n=ts.length
 rw[decide_eq_true hend]
 exact KV.retC3 [_,_,_,_,_,_,_,_] rfl rfl rfl rfl Tryz.underlying191 rfl I191.h rfl (fun w h=>h.cells 0 rfl) _ (fun _ h=>h.sel [1,1,1] rfl) (.inl ⟨⟨⟨0,e,Z.1.1,Y.1.ls,0⟩,Y.1.A,Y.1.c⟩,tg_,Y.1.n,hY.1.trans (by rw[if_pos hend];rfl),by omega,rfl,rfl⟩)
 rw[decide_eq_false hend]
 exact KV.retC3 [_,_,_,_,_,_,_,_] rfl rfl rfl rfl Tryz.underlying191 rfl I191.h rfl (fun w h=>h.cells 0 rfl) _ (fun _ h=>h.sel [1,1] rfl) (.inr ⟨hY.1.trans (by rw[if_neg hend]),⟨⟨0,e,Z.1.1,Y.1.ls,0⟩,Y.1.A,Y.1.c⟩,tg_,Y.1.n,by omega,rfl,rfl⟩)
 refine J15 ?_
 refine J3 ?_
 refine Zw 0 [_,_,_,_,_,_,_,_] #[_,_,_,_,_,_,_,_] ?_
 refine Jr (Step.assign (v:= .string (Sv.bs [])) rfl) ?_
 refine J5 ?_
 refine K3 [0,1,1] rfl ?_
 exact KV.retC3 [_,_,_,_,_,_,_,_] rfl rfl rfl rfl Tryz.underlying191 rfl I191.h rfl (fun w h=>h.cells 0 rfl) _ (fun _ h=>h.sel [1,1] rfl) (.inr ⟨hZ.1.trans (onT_no2 hAr hTg),⟨⟨0,e,Z.1.1,[],0⟩,none,0⟩,[],_,by omega,rfl,rfl⟩)
 refine J7 ?_
 refine Zw 0 [_,_,_,_,_,_,_,_] #[_,_,_,_,_,_,_,_] ?_
 refine Jr (Step.assign (v:= .string (Sv.bs [])) rfl) ?_
 refine J5 ?_
 refine K3 [0,1,1] rfl ?_
 exact KV.retC3 [_,_,_,_,_,_,_,_] rfl rfl rfl rfl Tryz.underlying191 rfl I191.h rfl (fun w h=>h.cells 0 rfl) _ (fun _ h=>h.sel [1,1] rfl) (.inr ⟨hZ.1.trans (onT_no1 hAr),⟨⟨0,e,Z.1.1,[],0⟩,none,0⟩,[],_,by omega,rfl,rfl⟩)
 refine J4 ?_
 refine Zw 1 [_] #[_,_,_,_,_,_,_,_] ?_
 refine J13 ?_
 refine Zw 0 [_,_,_,_,_,_,_,_] #[_,_,_,_,_,_,_,_] ?_
 refine Jr (Step.assign (v:= .string (Sv.bs [])) rfl) ?_
 refine J5 ?_
 refine K3 [0,1,1] rfl ?_
 exact KV.retC3 [_,_,_,_,_,_,_,_] rfl rfl rfl rfl Tryz.underlying191 rfl I191.h rfl (fun w h=>h.cells 0 rfl) _ (fun _ h=>h.sel [1,1] rfl) (.inr ⟨on_nm hE,⟨⟨0,[],gd0,[],0⟩,none,0⟩,[],_,by omega,rfl,rfl⟩)
end Go.Proofs.YtkofjhglgoojiaaGreatDoor.Dv
