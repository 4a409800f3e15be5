/-
  Joined.
-/
import Derived.Test.YtkofjhglgoojiaaGreatDoorP38
set_option linter.unusedSimpArgs false
set_option linter.unusedVariables false
namespace Go.Proofs.YtkofjhglgoojiaaGreatDoor.Dv
set_option maxRecDepth 100000
set_option maxHeartbeats 20000000
open Go.Tk Go.Sv Go.Drv
attribute [local irreducible] KV SV OV Step Code.wp wpList Exit.then Exit.inBlock Blk OS Big Bun
theorem kinds_fn {A:Option Addr} {n c:Nat} {ts:List MT} {w:World} (hs:RS w rtokK A ts) (hn:n=ts.length) (hl:ts.length≤1000000):Fx Tryz.prog 119 [.slice A n c] w [] no (fun v L=>v= .string (bs (ts.map kB))∧L=[]):=by
 refine Fb ?_
 intro I hro hI
 subst hn
 refine J2 ?_
 refine Jr (Step.assign (v:= .string (Sv.bs [])) rfl) ?_
 refine J4 ?_
 refine Jr (Step.assign (v:= .string (Sv.bs [])) rfl) ?_
 refine J9 ?_
 refine E0 ?_
 refine CV.loopI (fun(j:Nat)=>j≤ts.length) (fun(j:Nat)=>ts.length-j) (fun(j:Nat)=>[(0,.slice A ts.length c),(3,.string (bs (kds ts j))),(4,.int .i64 j)]) (fun(j:Nat)=>Hp I w []) (0) (Nat.zero_le _) (sb rfl) (fun _ h=>h) ?_
 intro j hinv
 refine J6 ?_
 refine Jlt rfl rfl (fun hj=>?_) (fun hj=>?_)
 refine J11 ?_
 refine Jr (Ti (fun w h=>(h.rs hs fun _=>hI _)) rfl rfl (rfl) _ rfl (by omega)) ?_
 refine J1 ?_
 refine Jr (Tc rfl (fun w h=>(h.rs hs fun _=>hI _).cell0 (by omega) rfl)) ?_
 refine RV.op (OV.buildSlice (K:=(intK .u8)) ([rkind (tA ts j)]) rfl (Bs208_1_0 _) rfl rfl (by omega) gno rfl (fun z=>?_))
 refine Jr (Step.convBS Tryz.underlying208 Tryz.underlying5 Tryz.underlying9 rfl (fun w h=>h.os 0 rfl) rfl (Nat.zero_lt_succ _)) ?_
 refine Jr (Step.addStr rfl rfl (by simp only[kds,List.length_map,List.length_take,List.length_cons,List.length_nil];omega)) ?_
 refine J10 ?_
 refine E0 ?_
 exact KV.loopI (z:=j) (j+1) (by omega) (by omega) ⟨rfl,(by rw[kds_s (by omega)];rfl),rfl,trivial⟩ (fun _ h=>h)
 refine J15 ?_
 refine E0 ?_
 obtain rfl:j=ts.length:=by omega
 exact Rb rfl rfl ⟨by unfold kds;rw[List.take_length],rfl⟩
structure OpG where
 cur:List MT
 B:Option Addr
 m:Nat
 acc:List Ro
 A:Option Addr
 c:Nat
 sep:Nat
structure OpI (w:World) (ts:List MT) (X:OpG):Prop where
 rs:RS w rtokK X.B X.cur
 cap:X.cur.length≤X.m
 ok: ∀x∈X.cur,tkOk x
 len:X.acc.length+X.cur.length≤ts.length
 sp:X.sep=58∨X.sep=59
 res:tailM ts=(tlM X.sep X.cur).map (fun x=>X.acc++x)
theorem OpI.head {w:World} {ts:List MT} {X:OpG} (h:OpI w ts X) (hl:0<X.cur.length) (hk:rkind (tA X.cur 0)=X.sep):X.cur= .sym X.sep::X.cur.drop 1:=by
 have e:=tA_cons hl
 rw[rk_s (tA_ok h.ok hl) (by rcases h.sp with e|e<;>rw[e];exact .inl rfl;exact .inr (.inl rfl)) hk] at e
 exact e
theorem OpI.next {w:World} {ts:List MT} {X:OpG} (h:OpI w ts X) (hl:0<X.cur.length) (hk:rkind (tA X.cur 0)=X.sep) {o:Ro} {n:Nat} (ho:opM (X.cur.drop 1)=some (o,(X.cur.drop 1).drop n)) {B:Option Addr} {m:Nat} (hB:RS w rtokK B ((X.cur.drop 1).drop n)) (hm:((X.cur.drop 1).drop n).length≤m) (A:Option Addr) (c:Nat):
 OpI w ts ⟨(X.cur.drop 1).drop n,B,m,X.acc++[o],A,c,59⟩:=by
 have e:=h.head hl hk
 have hlen:=opM_len ho
 have h1:(X.cur.drop 1).length=X.cur.length-1:=List.length_drop
 refine⟨hB,hm,fun x hx=>h.ok x (List.mem_of_mem_drop (List.mem_of_mem_drop hx)),?_,.inr rfl,?_⟩
 ·have:=h.len
  simp only[List.length_append,List.length_cons,List.length_nil]
  omega
 ·rw[h.res]
  have e2:tlM X.sep X.cur=(tlM 59 ((X.cur.drop 1).drop n)).map (fun x=>o::x):=by
   rw[e,tl_op]
   show(match opM (X.cur.drop 1) with|none=>none|some (o,r2)=>(tlM 59 r2).map (fun x=>o::x))=_
   rw[ho];rfl
  rw[e2,Option.map_map]
  congr 1
  funext x
  simp
theorem OpI.bad {w:World} {ts:List MT} {X:OpG} (h:OpI w ts X) (hl:0<X.cur.length) (hk:rkind (tA X.cur 0)=X.sep) (ho:opM (X.cur.drop 1)=none):tailM ts=none:=by
 rw[h.res,h.head hl hk,tl_op]
 show Option.map _ (match opM (X.cur.drop 1) with|none=>none|some (o,r2)=>(tlM 59 r2).map (fun x=>o::x))=none
 rw[ho];rfl
theorem roperations_fn {A:Option Addr} {c:Nat} {ts:List MT} {w:World} (hs:RS w rtokK A ts) (hc:ts.length≤c) (ht: ∀x∈ts,tkOk x) (hl:ts.length≤1000000):Fx Tryz.prog 154 [.slice A ts.length c] w [] no (fun v L=>(∃o A1 c1,tailM ts=some o∧o.length≤ts.length∧v= .tuple #[.slice A1 o.length c1,.bool true]∧L=[OS 193 roK A1 c1 o])∨(tailM ts=none∧v= .tuple #[.slice none 0 0,.bool false]∧L=[])):=by
 refine Fb ?_
 intro I hro hI
 refine J7 ?_
 refine KV.heap (fun w h=>h.nilOS (e:=193) (K:=roK)) ?_
 refine J11 ?_
 refine E1 ?_
 refine CV.loopI (fun(X:OpG)=>OpI w ts X) (fun(X:OpG)=>X.cur.length) (fun(X:OpG)=>[(0,.slice X.B X.cur.length X.m),(4,.slice X.A X.acc.length X.c),(5,.int .u8 X.sep)]) (fun(X:OpG)=>Hp I w [OS 193 roK X.A X.c X.acc]) (⟨ts,A,c,[],none,0,58⟩) ⟨hs,hc,ht,by simp,.inl rfl,by rw[tl_58];simp⟩ (sb rfl) (fun _ h=>h) ?_
 intro X hinv
 refine J5 ?_
 refine Jgt rfl rfl (fun hn0=>?_) (fun hn0=>?_)
 refine J11 ?_
 refine Jr (Ti (fun w h=>(h.rs hinv.rs fun _=>hI _)) rfl rfl (by first|rfl|omega) _ (show(0:Int)=((0:Nat):Int) from rfl) (by omega)) ?_
 refine J1 ?_
 refine Jr (Tc rfl (fun w h=>(h.rs hinv.rs fun _=>hI _).cell0 (by omega) rfl)) ?_
 refine J1 ?_
 refine Jne rfl rfl (fun hk=>?_) (fun hk=>?_)
 refine J15 ?_
 refine J1 ?_
 refine E0 ?_
 exact Rc rfl rfl rfl (.inr ⟨by rw[hinv.res,tl_no (by omega) hk];rfl,rfl,rfl⟩)
 refine J8 ?_
 refine Jr (Step.sliceLo Tryz.underlying221 I292.h rfl rfl (1) ((show(1:Int)=((1:Nat):Int) from rfl)) (by omega)) ?_
 obtain⟨R,hR⟩: ∃R,R=X.cur.drop 1:=⟨_,rfl⟩
 have hRl:X.cur.length-1=R.length:=by rw[hR,List.length_drop]
 have hRS:RS w rtokK (shA X.B 1 3 X.m) R:=by rw[hR];exact hinv.rs.drop 1 hinv.cap
 obtain⟨B1,hB1⟩: ∃B,B=shA X.B 1 3 X.m:=⟨_,rfl⟩
 rw[←hB1] at hRS ⊢
 rw[hRl]
 have hcap:=hinv.cap
 have hRm:R.length≤X.m-1:=by omega
 have hRok: ∀x∈R,tkOk x:=by rw[hR];exact fun x hx=>hinv.ok x (List.mem_of_mem_drop hx)
 have hlen:=hinv.len
 have hk0:=Decidable.not_not.1 hk
 refine J8 ?_
 refine Jge rfl rfl (fun g1=>?_) (fun g1=>?_)
 refine J2 ?_
 refine Jr (Step.sliceHi Tryz.underlying221 I292.h rfl rfl (3) ((show(3:Int)=((3:Nat):Int) from rfl)) (by omega)) ?_
 refine RV.op (Yc [] (F:=[_]) rfl rfl (fun w h=>kinds_fn (ts:=R.take 3) ((h.rs hRS fun _=>hI _).take 3) (by rw[List.length_take];omega) (by rw[List.length_take];omega)) (fun v L' hp=>?_))
 obtain⟨rfl,rfl⟩:=hp
 refine RV.op (OV.split (gyes rfl) (Step.eqlStr (l2:=[110,100,100]) rfl rfl) rfl (fun g2=>?_) (fun g2=>?_))
 refine J3 ?_
 refine Jr (Ti (fun w h=>(h.rs hRS fun _=>hI _)) rfl rfl (by first|rfl|omega) _ (show(0:Int)=((0:Nat):Int) from rfl) (by omega)) ?_
 refine J1 ?_
 refine Jr (Tc rfl (fun w h=>(h.rs hRS fun _=>hI _).cell (by omega) rfl)) ?_
 refine RV.op (OV.split (gyes rfl) (Step.eqlStr (l2:=[119,114,105,116,101]) rfl rfl) rfl (fun g3=>?_) (fun g3=>?_))
 refine J6 ?_
 have ho3:=op_wr hRok (by omega) g2 g3
 refine An (Hp I w []) 13 ?_
 refine W 0 ?_
 refine W 1 ?_
 refine Wt 2 rfl (Ti (fun w h=>(h.rs hRS fun _=>hI _)) rfl rfl (by first|rfl|omega) _ (show(1:Int)=((1:Nat):Int) from rfl) (by omega)) ?_
 refine W 3 ?_
 refine Wt 4 rfl (Tc rfl (fun w h=>(h.rs hRS fun _=>hI _).cell (by omega) rfl)) ?_
 refine W 5 ?_
 refine Wt 6 rfl (Ti (fun w h=>(h.rs hRS fun _=>hI _)) rfl rfl (by first|rfl|omega) _ (show(2:Int)=((2:Nat):Int) from rfl) (by omega)) ?_
 refine W 7 ?_
 refine Wt 8 rfl (Tc rfl (fun w h=>(h.rs hRS fun _=>hI _).cell (by omega) rfl)) ?_
 refine Wt 9 rfl (Step.build rfl (Bd193_0_1_2 _ _ _)) ?_
 refine V1 10 ?_
 refine OV.buildSlice (K:=roK) ([(⟨true,tnum (tA R 1),tnum (tA R 2)⟩:Ro)]) rfl (Bs189_1_0 _ _ _) rfl rfl (by omega) gno rfl (fun y=>?_)
 refine Wn ?_
 refine V1 11 ?_
 refine Ye 0 rfl rfl rfl rfl rfl (fun w h=>h.os 1 rfl) (by simp only[List.length_cons,List.length_nil];omega) (fun A2 c2=>?_)
 refine Wn ?_
 refine W 12 ?_
 refine Vd ?_
 refine J3 ?_
 refine Jr (Step.sliceLo Tryz.underlying221 I292.h rfl rfl (3) ((show(3:Int)=((3:Nat):Int) from rfl)) (by omega)) ?_
 refine J9 ?_
 refine E1 ?_
 exact KV.loopI (z:=X) (⟨(X.cur.drop 1).drop 3,shA B1 3 3 (X.m-1),X.m-1-3,X.acc++[⟨true,tnum (tA R 1),tnum (tA R 2)⟩],A2,c2,59⟩) (hinv.next (by omega) hk0 (by rw[←hR];exact ho3) (by rw[←hR];exact hRS.drop 3 hRm) (by rw[←hR,List.length_drop];omega) A2 c2) ((by show((X.cur.drop 1).drop 3).length<_;rw[←hR,List.length_drop];omega)) ⟨(by show _=some (Value.slice _ ((X.cur.drop 1).drop 3).length _);rw[←hR,List.length_drop];rfl),rfl,rfl,trivial⟩ (fun _ h=>h)
 refine J9 ?_
 refine Jge rfl rfl (fun f1=>?_) (fun f1=>?_)
 refine J2 ?_
 refine Jr (Step.sliceHi Tryz.underlying221 I292.h rfl rfl (2) ((show(2:Int)=((2:Nat):Int) from rfl)) (by omega)) ?_
 refine RV.op (Yc [] (F:=[_]) rfl rfl (fun w h=>kinds_fn (ts:=R.take 2) ((h.rs hRS fun _=>hI _).take 2) (by rw[List.length_take];omega) (by rw[List.length_take];omega)) (fun v L' hp=>?_))
 obtain⟨rfl,rfl⟩:=hp
 refine RV.op (OV.split (gyes rfl) (Step.eqlStr (l2:=[110,100]) rfl rfl) rfl (fun f2=>?_) (fun f2=>?_))
 refine J3 ?_
 refine Jr (Ti (fun w h=>(h.rs hRS fun _=>hI _)) rfl rfl (by first|rfl|omega) _ (show(0:Int)=((0:Nat):Int) from rfl) (by omega)) ?_
 refine J1 ?_
 refine Jr (Tc rfl (fun w h=>(h.rs hRS fun _=>hI _).cell (by omega) rfl)) ?_
 refine RV.op (OV.split (gyes rfl) (Step.eqlStr (l2:=[114,101,97,100]) rfl rfl) rfl (fun f3=>?_) (fun f3=>?_))
 refine J6 ?_
 have ho2:=op_rd hRok (by omega) f2 f3
 refine J3 ?_
 refine Jr (Ti (fun w h=>(h.rs hRS fun _=>hI _)) rfl rfl (by first|rfl|omega) _ (show(1:Int)=((1:Nat):Int) from rfl) (by omega)) ?_
 refine J1 ?_
 refine Jr (Tc rfl (fun w h=>(h.rs hRS fun _=>hI _).cell (by omega) rfl)) ?_
 refine Jr (Step.build rfl (Bd193_1 _)) ?_
 refine RV.op (OV.buildSlice (K:=roK) ([(⟨false,tnum (tA R 1),0⟩:Ro)]) rfl (Bs189_1_0 _ _ _) rfl rfl (by omega) gno rfl (fun y=>?_))
 refine RV.op (Ye 0 rfl rfl rfl rfl rfl (fun w h=>h.os 1 rfl) (by simp only[List.length_cons,List.length_nil];omega) (fun A2 c2=>?_))
 refine J5 ?_
 refine Jr (Step.sliceLo Tryz.underlying221 I292.h rfl rfl (2) ((show(2:Int)=((2:Nat):Int) from rfl)) (by omega)) ?_
 refine J9 ?_
 refine E1 ?_
 exact KV.loopI (z:=X) (⟨(X.cur.drop 1).drop 2,shA B1 2 3 (X.m-1),X.m-1-2,X.acc++[⟨false,tnum (tA R 1),0⟩],A2,c2,59⟩) (hinv.next (by omega) hk0 (by rw[←hR];exact ho2) (by rw[←hR];exact hRS.drop 2 hRm) (by rw[←hR,List.length_drop];omega) A2 c2) ((by show((X.cur.drop 1).drop 2).length<_;rw[←hR,List.length_drop];omega)) ⟨(by show _=some (Value.slice _ ((X.cur.drop 1).drop 2).length _);rw[←hR,List.length_drop];rfl),rfl,rfl,trivial⟩ (fun _ h=>h)
 refine J15 ?_
 refine J3 ?_
 refine E0 ?_
 exact Rc rfl rfl rfl (.inr ⟨hinv.bad (by omega) hk0 (by rw[←hR];exact op_bad (by first|exact fun k=>g3 k.2.2|exact fun k=>g2 k.2.1|exact fun k=>absurd k.1 (by omega)) (by first|exact fun k=>f3 k.2.2|exact fun k=>f2 k.2.1|exact fun k=>absurd k.1 (by omega))),rfl,rfl⟩)
 refine J15 ?_
 refine J10 ?_
 refine E0 ?_
 exact Rc rfl rfl rfl (.inr ⟨hinv.bad (by omega) hk0 (by rw[←hR];exact op_bad (by first|exact fun k=>g3 k.2.2|exact fun k=>g2 k.2.1|exact fun k=>absurd k.1 (by omega)) (by first|exact fun k=>f3 k.2.2|exact fun k=>f2 k.2.1|exact fun k=>absurd k.1 (by omega))),rfl,rfl⟩)
 refine J15 ?_
 refine J15 ?_
 refine E0 ?_
 exact Rc rfl rfl rfl (.inr ⟨hinv.bad (by omega) hk0 (by rw[←hR];exact op_bad (by first|exact fun k=>g3 k.2.2|exact fun k=>g2 k.2.1|exact fun k=>absurd k.1 (by omega)) (by first|exact fun k=>f3 k.2.2|exact fun k=>f2 k.2.1|exact fun k=>absurd k.1 (by omega))),rfl,rfl⟩)
 refine J15 ?_
 refine J1 ?_
 refine Jge rfl rfl (fun f1=>?_) (fun f1=>?_)
 refine J2 ?_
 refine Jr (Step.sliceHi Tryz.underlying221 I292.h rfl rfl (2) ((show(2:Int)=((2:Nat):Int) from rfl)) (by omega)) ?_
 refine RV.op (Yc [] (F:=[_]) rfl rfl (fun w h=>kinds_fn (ts:=R.take 2) ((h.rs hRS fun _=>hI _).take 2) (by rw[List.length_take];omega) (by rw[List.length_take];omega)) (fun v L' hp=>?_))
 obtain⟨rfl,rfl⟩:=hp
 refine RV.op (OV.split (gyes rfl) (Step.eqlStr (l2:=[110,100]) rfl rfl) rfl (fun f2=>?_) (fun f2=>?_))
 refine J3 ?_
 refine Jr (Ti (fun w h=>(h.rs hRS fun _=>hI _)) rfl rfl (by first|rfl|omega) _ (show(0:Int)=((0:Nat):Int) from rfl) (by omega)) ?_
 refine J1 ?_
 refine Jr (Tc rfl (fun w h=>(h.rs hRS fun _=>hI _).cell (by omega) rfl)) ?_
 refine RV.op (OV.split (gyes rfl) (Step.eqlStr (l2:=[114,101,97,100]) rfl rfl) rfl (fun f3=>?_) (fun f3=>?_))
 refine J6 ?_
 have ho2:=op_rd hRok (by omega) f2 f3
 refine J3 ?_
 refine Jr (Ti (fun w h=>(h.rs hRS fun _=>hI _)) rfl rfl (by first|rfl|omega) _ (show(1:Int)=((1:Nat):Int) from rfl) (by omega)) ?_
 refine J1 ?_
 refine Jr (Tc rfl (fun w h=>(h.rs hRS fun _=>hI _).cell (by omega) rfl)) ?_
 refine Jr (Step.build rfl (Bd193_1 _)) ?_
 refine RV.op (OV.buildSlice (K:=roK) ([(⟨false,tnum (tA R 1),0⟩:Ro)]) rfl (Bs189_1_0 _ _ _) rfl rfl (by omega) gno rfl (fun y=>?_))
 refine RV.op (Ye 0 rfl rfl rfl rfl rfl (fun w h=>h.os 1 rfl) (by simp only[List.length_cons,List.length_nil];omega) (fun A2 c2=>?_))
 refine J5 ?_
 refine Jr (Step.sliceLo Tryz.underlying221 I292.h rfl rfl (2) ((show(2:Int)=((2:Nat):Int) from rfl)) (by omega)) ?_
 refine J9 ?_
 refine E1 ?_
 exact KV.loopI (z:=X) (⟨(X.cur.drop 1).drop 2,shA B1 2 3 (X.m-1),X.m-1-2,X.acc++[⟨false,tnum (tA R 1),0⟩],A2,c2,59⟩) (hinv.next (by omega) hk0 (by rw[←hR];exact ho2) (by rw[←hR];exact hRS.drop 2 hRm) (by rw[←hR,List.length_drop];omega) A2 c2) ((by show((X.cur.drop 1).drop 2).length<_;rw[←hR,List.length_drop];omega)) ⟨(by show _=some (Value.slice _ ((X.cur.drop 1).drop 2).length _);rw[←hR,List.length_drop];rfl),rfl,rfl,trivial⟩ (fun _ h=>h)
 refine J15 ?_
 refine J3 ?_
 refine E0 ?_
 exact Rc rfl rfl rfl (.inr ⟨hinv.bad (by omega) hk0 (by rw[←hR];exact op_bad (by first|exact fun k=>g3 k.2.2|exact fun k=>g2 k.2.1|exact fun k=>absurd k.1 (by omega)) (by first|exact fun k=>f3 k.2.2|exact fun k=>f2 k.2.1|exact fun k=>absurd k.1 (by omega))),rfl,rfl⟩)
 refine J15 ?_
 refine J10 ?_
 refine E0 ?_
 exact Rc rfl rfl rfl (.inr ⟨hinv.bad (by omega) hk0 (by rw[←hR];exact op_bad (by first|exact fun k=>g3 k.2.2|exact fun k=>g2 k.2.1|exact fun k=>absurd k.1 (by omega)) (by first|exact fun k=>f3 k.2.2|exact fun k=>f2 k.2.1|exact fun k=>absurd k.1 (by omega))),rfl,rfl⟩)
 refine J15 ?_
 refine J15 ?_
 refine E0 ?_
 exact Rc rfl rfl rfl (.inr ⟨hinv.bad (by omega) hk0 (by rw[←hR];exact op_bad (by first|exact fun k=>g3 k.2.2|exact fun k=>g2 k.2.1|exact fun k=>absurd k.1 (by omega)) (by first|exact fun k=>f3 k.2.2|exact fun k=>f2 k.2.1|exact fun k=>absurd k.1 (by omega))),rfl,rfl⟩)
 refine J15 ?_
 refine J6 ?_
 refine Jge rfl rfl (fun f1=>?_) (fun f1=>?_)
 refine J2 ?_
 refine Jr (Step.sliceHi Tryz.underlying221 I292.h rfl rfl (2) ((show(2:Int)=((2:Nat):Int) from rfl)) (by omega)) ?_
 refine RV.op (Yc [] (F:=[_]) rfl rfl (fun w h=>kinds_fn (ts:=R.take 2) ((h.rs hRS fun _=>hI _).take 2) (by rw[List.length_take];omega) (by rw[List.length_take];omega)) (fun v L' hp=>?_))
 obtain⟨rfl,rfl⟩:=hp
 refine RV.op (OV.split (gyes rfl) (Step.eqlStr (l2:=[110,100]) rfl rfl) rfl (fun f2=>?_) (fun f2=>?_))
 refine J3 ?_
 refine Jr (Ti (fun w h=>(h.rs hRS fun _=>hI _)) rfl rfl (by first|rfl|omega) _ (show(0:Int)=((0:Nat):Int) from rfl) (by omega)) ?_
 refine J1 ?_
 refine Jr (Tc rfl (fun w h=>(h.rs hRS fun _=>hI _).cell (by omega) rfl)) ?_
 refine RV.op (OV.split (gyes rfl) (Step.eqlStr (l2:=[114,101,97,100]) rfl rfl) rfl (fun f3=>?_) (fun f3=>?_))
 refine J6 ?_
 have ho2:=op_rd hRok (by omega) f2 f3
 refine J3 ?_
 refine Jr (Ti (fun w h=>(h.rs hRS fun _=>hI _)) rfl rfl (by first|rfl|omega) _ (show(1:Int)=((1:Nat):Int) from rfl) (by omega)) ?_
 refine J1 ?_
 refine Jr (Tc rfl (fun w h=>(h.rs hRS fun _=>hI _).cell (by omega) rfl)) ?_
 refine Jr (Step.build rfl (Bd193_1 _)) ?_
 refine RV.op (OV.buildSlice (K:=roK) ([(⟨false,tnum (tA R 1),0⟩:Ro)]) rfl (Bs189_1_0 _ _ _) rfl rfl (by omega) gno rfl (fun y=>?_))
 refine RV.op (Ye 0 rfl rfl rfl rfl rfl (fun w h=>h.os 1 rfl) (by simp only[List.length_cons,List.length_nil];omega) (fun A2 c2=>?_))
 refine J5 ?_
 refine Jr (Step.sliceLo Tryz.underlying221 I292.h rfl rfl (2) ((show(2:Int)=((2:Nat):Int) from rfl)) (by omega)) ?_
 refine J9 ?_
 refine E1 ?_
 exact KV.loopI (z:=X) (⟨(X.cur.drop 1).drop 2,shA B1 2 3 (X.m-1),X.m-1-2,X.acc++[⟨false,tnum (tA R 1),0⟩],A2,c2,59⟩) (hinv.next (by omega) hk0 (by rw[←hR];exact ho2) (by rw[←hR];exact hRS.drop 2 hRm) (by rw[←hR,List.length_drop];omega) A2 c2) ((by show((X.cur.drop 1).drop 2).length<_;rw[←hR,List.length_drop];omega)) ⟨(by show _=some (Value.slice _ ((X.cur.drop 1).drop 2).length _);rw[←hR,List.length_drop];rfl),rfl,rfl,trivial⟩ (fun _ h=>h)
 refine J15 ?_
 refine J3 ?_
 refine E0 ?_
 exact Rc rfl rfl rfl (.inr ⟨hinv.bad (by omega) hk0 (by rw[←hR];exact op_bad (by first|exact fun k=>g3 k.2.2|exact fun k=>g2 k.2.1|exact fun k=>absurd k.1 (by omega)) (by first|exact fun k=>f3 k.2.2|exact fun k=>f2 k.2.1|exact fun k=>absurd k.1 (by omega))),rfl,rfl⟩)
 refine J15 ?_
 refine J10 ?_
 refine E0 ?_
 exact Rc rfl rfl rfl (.inr ⟨hinv.bad (by omega) hk0 (by rw[←hR];exact op_bad (by first|exact fun k=>g3 k.2.2|exact fun k=>g2 k.2.1|exact fun k=>absurd k.1 (by omega)) (by first|exact fun k=>f3 k.2.2|exact fun k=>f2 k.2.1|exact fun k=>absurd k.1 (by omega))),rfl,rfl⟩)
 refine J15 ?_
 refine J15 ?_
 refine E0 ?_
 exact Rc rfl rfl rfl (.inr ⟨hinv.bad (by omega) hk0 (by rw[←hR];exact op_bad (by first|exact fun k=>g3 k.2.2|exact fun k=>g2 k.2.1|exact fun k=>absurd k.1 (by omega)) (by first|exact fun k=>f3 k.2.2|exact fun k=>f2 k.2.1|exact fun k=>absurd k.1 (by omega))),rfl,rfl⟩)
 refine J15 ?_
 refine J1 ?_
 have hcur:X.cur=[]:=List.eq_nil_of_length_eq_zero (by omega)
 exact Rc rfl rfl rfl (.inl ⟨X.acc,X.A,X.c,by rw[hinv.res,hcur];simp[tlM],by have:=hinv.len;omega,rfl,rfl⟩)
end Go.Proofs.YtkofjhglgoojiaaGreatDoor.Dv
