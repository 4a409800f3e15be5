/-
  Joined.
-/
import Derived.Test.YtkofjhglgoojiaaGreatDoorP12
set_option linter.unusedSimpArgs false
set_option linter.unusedVariables false
namespace Go.Proofs.YtkofjhglgoojiaaGreatDoor.Dv
set_option maxRecDepth 100000
set_option maxHeartbeats 20000000
open Go.Tk Go.Sv Go.Drv
attribute [local irreducible] KV SV OV Step Code.wp wpList Exit.then Exit.inBlock Blk OS Big Bun
theorem atEnd_fn {q:Nat} {A:Option Addr} {n c i:Nat} {w:World} (hq:w.heap[q]?=some (.cells #[.slice A n c,.int .i64 (i:Int)] 376 (0,0))):Fx Tryz.prog 181 [.pointer (some ⟨q,0,none⟩)] w [] no (fun v L=>v= .bool (decide (i=n))∧L=[]):=by
 refine Fb ?_
 intro I hro hI
 refine J6 ?_
 refine An (Hp I w []) 11 ?_
 refine W 0 ?_
 refine W 1 ?_
 refine W 2 ?_
 refine Wt 3 rfl (Tc rfl (fun w h=>(cell_of (h.ro hq (hI _)) 1).trans rfl)) ?_
 refine W 4 ?_
 refine W 5 ?_
 refine W 6 ?_
 refine Wt 7 rfl (Tc rfl (fun w h=>(cell_of (h.ro hq (hI _)) 0).trans rfl)) ?_
 refine W 8 ?_
 refine W 9 ?_
 refine W 10 ?_
 refine Vd ?_
 refine J2 ?_
 refine E0 ?_
 exact Rb rfl rfl ⟨by rw[show decide ((i:Int)=(n:Int))=decide (i=n) from decide_eq_decide.2 (by omega)],rfl⟩
theorem name_fn {q:Nat} {A:Option Addr} {c i:Nat} {ts:List MT} {w:World} (hi:i≤ts.length) (hl:ts.length≤1000000):Fx Tryz.prog 180 [.pointer (some ⟨q,0,none⟩)] w [Blk q (.cells #[.slice A ts.length c,.int .i64 (((i:Nat):Int))] 376 (0,0)),OS 370 tokK A c ts] no (fun v L=>(∃t,ts.drop i= .nm t::ts.drop (i+1)∧i<ts.length∧v= .tuple #[.string (bs t),.bool true]∧L=[Blk q (.cells #[.slice A ts.length c,.int .i64 (((i+1:Nat):Int))] 376 (0,0)),OS 370 tokK A c ts])∨((∀t r,ts.drop i≠ .nm t::r)∧v= .tuple #[.string (bs []),.bool false]∧L=[Blk q (.cells #[.slice A ts.length c,.int .i64 (((i:Nat):Int))] 376 (0,0)),OS 370 tokK A c ts])):=by
 refine Fb ?_
 intro I hro hI
 refine J2 ?_
 refine Jr (Step.assign (v:= .string (Sv.bs [])) rfl) ?_
 refine J5 ?_
 refine An (Hp I w [Blk q (.cells #[.slice A ts.length c,.int .i64 (((i:Nat):Int))] 376 (0,0)),OS 370 tokK A c ts]) 16 ?_
 refine W 0 ?_
 refine V1 1 ?_
 refine Yc [] (F:=[_,_]) rfl rfl (fun w h=>atEnd_fn (h.blk 0 rfl)) (fun v L' hp=>?_)
 obtain⟨rfl,rfl⟩:=hp
 refine Wn ?_
 refine W 2 ?_
 refine KV.cases 6 rfl (fun cc1=>?_) (fun cc1=>?_)
 have he:=of_decide_eq_true cc1
 refine Wk 3 ?_
 refine Wk 4 ?_
 refine Wk 5 ?_
 refine Wk 6 ?_
 refine Wk 7 ?_
 refine Wk 8 ?_
 refine Wk 9 ?_
 refine Wk 10 ?_
 refine Wk 11 ?_
 refine Wk 12 ?_
 refine Wk 13 ?_
 refine Wk 14 ?_
 refine W 15 ?_
 refine Vd ?_
 refine J4 ?_
 refine Jr (Step.assign (v:= .string (Sv.bs [])) rfl) ?_
 refine J5 ?_
 refine E2 ?_
 exact Rc rfl rfl rfl (.inr ⟨by first|exact nm_end he|exact nm_no (by omega) hk,rfl,rfl⟩)
 have he:=of_decide_eq_false cc1
 refine W 3 ?_
 refine W 4 ?_
 refine W 5 ?_
 refine W 6 ?_
 refine W 7 ?_
 refine W 8 ?_
 refine W 9 ?_
 refine W 10 ?_
 refine W 11 ?_
 refine W 12 ?_
 refine W 13 ?_
 refine W 14 ?_
 refine W 15 ?_
 refine Vd ?_
 refine J1 ?_
 refine KV.cases 19 rfl (fun cc2=>?_) (fun cc2=>?_)
 have hk:=of_decide_eq_true cc2
 refine J3 ?_
 refine Jr (Step.assign (v:= .string (Sv.bs [])) rfl) ?_
 refine J5 ?_
 refine E2 ?_
 exact Rc rfl rfl rfl (.inr ⟨by first|exact nm_end he|exact nm_no (by omega) hk,rfl,rfl⟩)
 have hk:=Decidable.not_not.1 (of_decide_eq_false cc2)
 refine J6 ?_
 refine Jp rfl ?_
 refine J3 ?_
 refine Jp rfl ?_
 refine J1 ?_
 refine Zw 0 [_] #[_,_] ?_
 refine J3 ?_
 refine Zs ?_
 refine J9 ?_
 refine Sr (Ti (fun w h=>h.os 1 rfl) rfl rfl (rfl) _ (show((i:Int)+1)-1=((i:Nat):Int) by omega) (by omega)) ?_
 refine J4 ?_
 refine SV.nil ?_
 refine J2 ?_
 refine E2 ?_
 exact Rc rfl rfl rfl (.inl ⟨_,nm_yes (by omega) hk,by omega,rfl,rfl⟩)
theorem accept_fn (m:MT) {q:Nat} {A:Option Addr} {c i:Nat} {ts:List MT} {w:World} (hm:okS m) (ht: ∀x∈ts,tkOk x) (hi:i≤ts.length) (hl:ts.length≤1000000):Fx Tryz.prog 197 [.pointer (some ⟨q,0,none⟩),.int .i64 (tkind m),.string (bs (ttext m))] w [Blk q (.cells #[.slice A ts.length c,.int .i64 (((i:Nat):Int))] 376 (0,0)),OS 370 tokK A c ts] no (fun v L=>(ts.drop i=m::ts.drop (i+1)∧i<ts.length∧v= .bool true∧L=[Blk q (.cells #[.slice A ts.length c,.int .i64 (((i+1:Nat):Int))] 376 (0,0)),OS 370 tokK A c ts])∨((∀r,ts.drop i≠m::r)∧v= .bool false∧L=[Blk q (.cells #[.slice A ts.length c,.int .i64 (((i:Nat):Int))] 376 (0,0)),OS 370 tokK A c ts])):=by
 refine Fb ?_
 intro I hro hI
 refine J7 ?_
 refine An (Hp I w [Blk q (.cells #[.slice A ts.length c,.int .i64 (((i:Nat):Int))] 376 (0,0)),OS 370 tokK A c ts]) 32 ?_
 refine W 0 ?_
 refine V1 1 ?_
 refine Yc [] (F:=[_,_]) rfl rfl (fun w h=>atEnd_fn (h.blk 0 rfl)) (fun v L' hp=>?_)
 obtain⟨rfl,rfl⟩:=hp
 refine Wn ?_
 refine W 2 ?_
 refine KV.cases 9 rfl (fun cc1=>?_) (fun cc1=>?_)
 have he:=of_decide_eq_true cc1
 refine Wk 3 ?_
 refine Wk 4 ?_
 refine Wk 5 ?_
 refine Wk 6 ?_
 refine Wk 7 ?_
 refine Wk 8 ?_
 refine Wk 9 ?_
 refine Wk 10 ?_
 refine Wk 11 ?_
 refine Wk 12 ?_
 refine Wk 13 ?_
 refine Wk 14 ?_
 refine Wk 15 ?_
 refine W 16 ?_
 refine W 17 ?_
 refine Wk 18 ?_
 refine Wk 19 ?_
 refine Wk 20 ?_
 refine Wk 21 ?_
 refine Wk 22 ?_
 refine Wk 23 ?_
 refine Wk 24 ?_
 refine Wk 25 ?_
 refine Wk 26 ?_
 refine Wk 27 ?_
 refine Wk 28 ?_
 refine Wk 29 ?_
 refine Wk 30 ?_
 refine W 31 ?_
 refine Vd ?_
 refine J9 ?_
 refine E2 ?_
 exact Rb rfl rfl (.inr ⟨by first|exact acc_end he|exact acc_no (by omega) (fun k=>hk k.1)|exact acc_no (by omega) (fun k=>hx k.2),rfl,rfl⟩)
 have he:=of_decide_eq_false cc1
 refine W 3 ?_
 refine W 4 ?_
 refine W 5 ?_
 refine W 6 ?_
 refine W 7 ?_
 refine W 8 ?_
 refine W 9 ?_
 refine W 10 ?_
 refine W 11 ?_
 refine W 12 ?_
 refine W 13 ?_
 refine W 14 ?_
 refine W 15 ?_
 refine W 16 ?_
 refine W 17 ?_
 refine KV.cases 24 rfl (fun cc2=>?_) (fun cc2=>?_)
 have hk:=of_decide_eq_true cc2
 refine Wk 18 ?_
 refine Wk 19 ?_
 refine Wk 20 ?_
 refine Wk 21 ?_
 refine Wk 22 ?_
 refine Wk 23 ?_
 refine Wk 24 ?_
 refine Wk 25 ?_
 refine Wk 26 ?_
 refine Wk 27 ?_
 refine Wk 28 ?_
 refine Wk 29 ?_
 refine Wk 30 ?_
 refine W 31 ?_
 refine Vd ?_
 refine J9 ?_
 refine E2 ?_
 exact Rb rfl rfl (.inr ⟨by first|exact acc_end he|exact acc_no (by omega) (fun k=>hk k.1)|exact acc_no (by omega) (fun k=>hx k.2),rfl,rfl⟩)
 have hk:=Decidable.not_not.1 (of_decide_eq_false cc2)
 refine W 18 ?_
 refine W 19 ?_
 refine W 20 ?_
 refine W 21 ?_
 refine W 22 ?_
 refine W 23 ?_
 refine W 24 ?_
 refine W 25 ?_
 refine W 26 ?_
 refine W 27 ?_
 refine W 28 ?_
 refine W 29 ?_
 refine Wt 30 rfl (Step.neqStr rfl rfl) ?_
 refine W 31 ?_
 refine Vd ?_
 refine J1 ?_
 refine KV.cases 38 rfl (fun cc3=>?_) (fun cc3=>?_)
 have hx:=of_decide_eq_true cc3
 refine J8 ?_
 refine E2 ?_
 exact Rb rfl rfl (.inr ⟨by first|exact acc_end he|exact acc_no (by omega) (fun k=>hk k.1)|exact acc_no (by omega) (fun k=>hx k.2),rfl,rfl⟩)
 have hx:=Decidable.not_not.1 (of_decide_eq_false cc3)
 refine J6 ?_
 refine Jp rfl ?_
 refine J3 ?_
 refine Jp rfl ?_
 refine J1 ?_
 refine Zw 0 [_] #[_,_] ?_
 refine J8 ?_
 refine E2 ?_
 exact Rb rfl rfl (.inl ⟨acc_yes (by omega) ht hm hk hx,by omega,rfl,rfl⟩)
theorem number_fn {q:Nat} {A:Option Addr} {c i:Nat} {ts:List MT} {w:World} {b o:Nat} {cur:Array Value} {te:TypeId} (cs:Int→Array Value) (ho:o+1≤cur.size) (hcs: ∀v,(cur.toList.take o++[Value.int .u64 v]++cur.toList.drop (o+1)).toArray=cs v) (hi:i≤ts.length) (hl:ts.length≤1000000):Fx Tryz.prog 198 [.pointer (some ⟨q,0,none⟩),.pointer (some ⟨b,o,none⟩)] w [Blk q (.cells #[.slice A ts.length c,.int .i64 (((i:Nat):Int))] 376 (0,0)),OS 370 tokK A c ts,Blk b (.cells cur te (0,0))] no (fun v L=>(∃x,ts.drop i= .num x::ts.drop (i+1)∧i<ts.length∧v= .bool true∧L=[Blk q (.cells #[.slice A ts.length c,.int .i64 (((i+1:Nat):Int))] 376 (0,0)),OS 370 tokK A c ts,Blk b (.cells (cs x) te (0,0))])∨((∀x r,ts.drop i≠ .num x::r)∧v= .bool false∧L=[Blk q (.cells #[.slice A ts.length c,.int .i64 (((i:Nat):Int))] 376 (0,0)),OS 370 tokK A c ts,Blk b (.cells cur te (0,0))])):=by
 refine Fb ?_
 intro I hro hI
 refine J7 ?_
 refine An (Hp I w [Blk q (.cells #[.slice A ts.length c,.int .i64 (((i:Nat):Int))] 376 (0,0)),OS 370 tokK A c ts,Blk b (.cells cur te (0,0))]) 16 ?_
 refine W 0 ?_
 refine V1 1 ?_
 refine Yc [] (F:=[_,_,_]) rfl rfl (fun w h=>atEnd_fn (h.blk 0 rfl)) (fun v L' hp=>?_)
 obtain⟨rfl,rfl⟩:=hp
 refine Wn ?_
 refine W 2 ?_
 refine KV.cases 7 rfl (fun cc1=>?_) (fun cc1=>?_)
 have he:=of_decide_eq_true cc1
 refine Wk 3 ?_
 refine Wk 4 ?_
 refine Wk 5 ?_
 refine Wk 6 ?_
 refine Wk 7 ?_
 refine Wk 8 ?_
 refine Wk 9 ?_
 refine Wk 10 ?_
 refine Wk 11 ?_
 refine Wk 12 ?_
 refine Wk 13 ?_
 refine Wk 14 ?_
 refine W 15 ?_
 refine Vd ?_
 refine J9 ?_
 refine E3 ?_
 exact Rb rfl rfl (.inr ⟨by first|exact num_end he|exact num_no (by omega) hk,rfl,rfl⟩)
 have he:=of_decide_eq_false cc1
 refine W 3 ?_
 refine W 4 ?_
 refine W 5 ?_
 refine W 6 ?_
 refine W 7 ?_
 refine W 8 ?_
 refine W 9 ?_
 refine W 10 ?_
 refine W 11 ?_
 refine W 12 ?_
 refine W 13 ?_
 refine W 14 ?_
 refine W 15 ?_
 refine Vd ?_
 refine J1 ?_
 refine KV.cases 20 rfl (fun cc2=>?_) (fun cc2=>?_)
 have hk:=of_decide_eq_true cc2
 refine J8 ?_
 refine E3 ?_
 exact Rb rfl rfl (.inr ⟨by first|exact num_end he|exact num_no (by omega) hk,rfl,rfl⟩)
 have hk:=Decidable.not_not.1 (of_decide_eq_false cc2)
 refine J4 ?_
 refine Zt 13 ?_
 refine J13 ?_
 refine SV.nil ?_
 show KV _ (wpList _ _ _ _) _ _
 refine RV.op (OV.store 2 [_] (cs _) I37.h rfl rfl rfl rfl rfl ho (by simp[Value.oneCell']) (hcs _) gno ?_)
 refine J5 ?_
 refine Jp rfl ?_
 refine J3 ?_
 refine Jp rfl ?_
 refine J1 ?_
 refine Zw 0 [_] #[_,_] ?_
 refine J8 ?_
 refine E3 ?_
 exact Rb rfl rfl (.inl ⟨_,num_yes (by omega) hk,by omega,rfl,rfl⟩)
end Go.Proofs.YtkofjhglgoojiaaGreatDoor.Dv
