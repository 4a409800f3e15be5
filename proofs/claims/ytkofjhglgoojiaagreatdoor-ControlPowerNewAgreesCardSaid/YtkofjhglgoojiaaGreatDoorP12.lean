/-
  Joined.
-/
import Derived.Test.YtkofjhglgoojiaaGreatDoorP11
set_option linter.unusedSimpArgs false
set_option linter.unusedVariables false
namespace Go.Proofs.YtkofjhglgoojiaaGreatDoor.Dv
set_option maxRecDepth 100000
set_option maxHeartbeats 20000000
open Go.Tk Go.Sv Go.Drv
attribute [local irreducible] KV SV OV Step Code.wp wpList Exit.then Exit.inBlock Blk OS Big Bun
def EvR (w:World):Prop:= ∃t p,w.cell? ⟨4,0,none⟩=some (.iface t p)
theorem EvR.keep {I:Ids} {w0 w:World} {L:List Assn} (h:Hp I w0 L w) (k:EvR w0) (hI: ¬I 4):EvR w:=by
 obtain⟨t,p,hk⟩:=k
 refine⟨t,p,?_⟩
 unfold World.cell? at hk ⊢
 cases hb:w0.heap[4]? with
 |none=>simp[hb] at hk
 |some o=>
  have h2:=h.ro hb hI
  simp only[hb] at hk
  simp only[h2]
  exact hk
theorem hp_below {I:Ids} {w w':World} (hI:Sep [] I w) (h:RowKit.Below w.heap.size w w'):Hp I w [] w':=
 ⟨fun _=>False,fun _ h=>h,⟨h.os,h.tape,h.output,h.size,fun x hx _=>h.block x hx⟩,fun _ h=>h.elim⟩
theorem parseUint_fn (s:Bs) (h0:s≠[]) (hd: ∀x∈s,digB x=true) (hl:s.length≤1000000) {w:World} (hE:EvR w):
 Fx Tryz.prog 196 [.string (bs s),.int .i64 10,.int .i64 64] w [] no (fun v L=>(∃x er,v= .tuple #[.int .u64 x,er]∧(valD 0 s<18446744073709551616→x=valD 0 s∧er= .nilIface)∧(¬valD 0 s<18446744073709551616→ ∃t p,er= .iface t p))∧L=[]):=by
 intro I hI _
 have hp:=parseB_dig h0 hd
 by_cases h:valD 0 s<18446744073709551616
 ·rw[if_pos h] at hp
  have hc:=Any.strconv_ParseUint_10_at64_ok Tryz.laysPu14 (bs s) (by rw[bs_size];omega) (valD 0 s) hp w
  refine Calls.mono hc ?_
  rintro e w' ⟨rfl,hw⟩
  refine⟨_,[],rfl,⟨⟨_,_,rfl,fun _=>⟨rfl,rfl⟩,fun k=>absurd h k⟩,rfl⟩,?_⟩
  rcases hw with rfl|rfl
  ·exact Hp.start hI
  ·exact hp_below hI (Lib.bytesWorld_below ..)
 ·rw[if_neg h] at hp
  obtain⟨t,p,hv⟩:=hE
  have hc:=Any.strconv_ParseUint_10_at64_range Tryz.laysPu14 (bs s) (by rw[bs_size];omega) hp _ w hv (.inr ⟨t,p,rfl⟩)
  refine Calls.mono hc ?_
  rintro e w' ⟨n,rfl,_,_,hw⟩
  exact⟨_,[],rfl,⟨⟨_,_,rfl,fun k=>absurd k h,fun _=>⟨_,_,rfl⟩⟩,rfl⟩,hp_below hI hw⟩
section
variable {P:Program} {N:NN} {E:Env} {S:World→Prop} {d:Option Nat} {t t2 ty:TypeId} {pos:String} {af:Array Edge} {g:Option (Nat×Bool)} {x:Operand}
theorem neqNil_f {ms:Array (String×TypeId)} (hu:P.underlying t=some (.interface ms)) (hx:ev E x=some .nilIface):Step P N E S ⟨d,.binOp .neq t x (.const .nilIface) t2,ty,pos,af,g⟩ (.bool false):=
 Step.binR hx rfl (fun w=>by cases x<;>simp[eqGuard]) (fun w=>by
  have h:(Op.equal t .nilIface .nilIface).run P w= .ok true w:=by
   show(Op.equalIn (9999+1) t .nilIface .nilIface).run P w=_
   rw[Op.equalIn]
   simp only[Sem.run_bind,run_underlying hu,Result.andThen_ok,Sem.run_pure]
  simp[binOp,h])
theorem neqNil_t {ms:Array (String×TypeId)} (hu:P.underlying t=some (.interface ms)) {k:TypeId} {v:Value} (hx:ev E x=some (.iface k v)):Step P N E S ⟨d,.binOp .neq t x (.const .nilIface) t2,ty,pos,af,g⟩ (.bool true):=
 Step.binR hx rfl (fun w=>by simp[eqGuard]) (fun w=>by
  have h:(Op.equal t (.iface k v) .nilIface).run P w= .ok false w:=by
   show(Op.equalIn (9999+1) t (.iface k v) .nilIface).run P w=_
   rw[Op.equalIn]
   simp only[Sem.run_bind,run_underlying hu,Result.andThen_ok,Sem.run_pure]
  simp[binOp,h])
theorem neqNil_d {ms:Array (String×TypeId)} {p:Prop} [Decidable p] {er:Value} (hu:P.underlying t=some (.interface ms)) (hx:ev E x=some er) (h1:p→er= .nilIface) (h2: ¬p→ ∃k v,er= .iface k v):Step P N E S ⟨d,.binOp .neq t x (.const .nilIface) t2,ty,pos,af,g⟩ (.bool (decide (¬p))):=by
 by_cases hp:p
 ·rw[decide_eq_false (show ¬ ¬p from fun k=>k hp)]
  exact neqNil_f hu (hx.trans (congrArg some (h1 hp)))
 ·rw[decide_eq_true hp]
  obtain⟨k,v,rfl⟩:=h2 hp
  exact neqNil_t hu hx
end
theorem word_fn (s:Bs) (hl:s.length≤1000000) {w:World} (hE:EvR w):Fx Tryz.prog 179 [.string (bs s)] w [] no (fun v L=>(match wordTok s with|some t=>v= .tuple #[.agg (tokC t).toArray,.bool true]|none=>v= .tuple #[.agg #[.int .i64 0,.string (bs []),.int .u64 0],.bool false])∧L=[]):=by
 refine Fb ?_
 intro I hro hI
 refine J2 ?_
 refine RV.op (OV.alloc #[.int .i64 0,.string (Sv.bs []),.int .u64 0] I370.h rfl gno rfl (fun r=>?_))
 refine J7 ?_
 refine RV.op (Yp rfl (isName_fn s) ?_)
 refine J2 ?_
 refine KV.cases 8 rfl (fun cc1=>?_) (fun cc1=>?_)
 have hnm:isNm s=true:=cc1
 refine J4 ?_
 refine Jr (Step.build rfl (Bd370_0_1 _ _)) ?_
 refine Zw 0 [_,_,_] #[_,_,_] ?_
 refine J5 ?_
 exact KV.retC2 [_,_,_] rfl rfl rfl Tryz.underlying370 rfl I370.h rfl (fun w h=>h.cells 0 rfl) [] (fun _ h=>h.sel [] rfl) ⟨by rw[wt_name hnm]<;>rfl,rfl⟩
 have hnm:isNm s=false:=cc1
 refine J7 ?_
 refine RV.op (OV.split gno (Step.eqlStr (l2:=[]) rfl rfl) rfl (fun h0=>?_) (fun h0=>?_))
 refine J5 ?_
 refine RV.op (OV.skipU rfl rfl ?_)
 refine RV.op (OV.skipU rfl rfl ?_)
 refine RV.op (OV.skipU rfl rfl ?_)
 refine J7 ?_
 refine Jr (Step.build rfl (Bd370_)) ?_
 refine Zw 0 [_,_,_] #[_,_,_] ?_
 refine J5 ?_
 exact KV.retC2 [_,_,_] rfl rfl rfl Tryz.underlying370 rfl I370.h rfl (fun w h=>h.cells 0 rfl) [] (fun _ h=>h.sel [] rfl) ⟨by rw[wt_bad hnm (bool_f (fun k=>by have k2:=(numW_iff s).1 k;first|exact absurd h0 k2.1|(rcases k2.2.1 with h3|h3;omega;exact h3 (UInt8.toNat_inj.1 (by have h4:((48:UInt8).toNat:Int)=48:=rfl;omega)))))]<;>rfl,rfl⟩
 refine J3 ?_
 refine Jgt rfl rfl (fun h1=>?_) (fun h1=>?_)
 refine J2 ?_
 refine Jr (Step.idxStr Tryz.underlying9 rfl rfl 0 rfl (by first|omega|(have:0<s.length:=List.length_pos_iff.2 h0;omega))) ?_
 refine Jeq rfl rfl (fun h2=>?_) (fun h2=>?_)
 refine J7 ?_
 refine Jr (Step.build rfl (Bd370_)) ?_
 refine Zw 0 [_,_,_] #[_,_,_] ?_
 refine J5 ?_
 exact KV.retC2 [_,_,_] rfl rfl rfl Tryz.underlying370 rfl I370.h rfl (fun w h=>h.cells 0 rfl) [] (fun _ h=>h.sel [] rfl) ⟨by rw[wt_bad hnm (bool_f (fun k=>by have k2:=(numW_iff s).1 k;first|exact absurd h0 k2.1|(rcases k2.2.1 with h3|h3;omega;exact h3 (UInt8.toNat_inj.1 (by have h4:((48:UInt8).toNat:Int)=48:=rfl;omega)))))]<;>rfl,rfl⟩
 refine J15 ?_
 refine J1 ?_
 refine E1 ?_
 refine CV.loopI (fun(j:Nat)=>j≤s.length∧ ∀k,k<j→digB (s.getD k 0)=true) (fun(j:Nat)=>s.length-j) (fun(j:Nat)=>[(0,.string (bs s)),(2,.pointer (some ⟨r,0,none⟩)),(25,.int .i64 s.length),(26,.int .i64 j)]) (fun(j:Nat)=>Hp I w [Blk r (.cells #[.int .i64 (0),.string (bs ([])),.int .u64 (0)] 370 (0,0))]) (0) ⟨Nat.zero_le _,fun k hk=>by omega⟩ (sb rfl) (fun _ h=>h) ?_
 intro j hinv
 refine J2 ?_
 refine Jlt rfl rfl (fun hj=>?_) (fun hj=>?_)
 refine J15 ?_
 refine J3 ?_
 refine Jr (Step.idxStr Tryz.underlying9 rfl rfl _ rfl (by first|omega|(have:0<s.length:=List.length_pos_iff.2 h0;omega))) ?_
 refine RV.op (Yp rfl (isDigit_fn (s.getD j 0)) ?_)
 refine J3 ?_
 refine KV.cases 33 rfl (fun cc2=>?_) (fun cc2=>?_)
 have hdg:=neg_t cc2
 refine J3 ?_
 refine Jr (Step.build rfl (Bd370_)) ?_
 refine Zw 0 [_,_,_] #[_,_,_] ?_
 refine J9 ?_
 exact KV.retC2 [_,_,_] rfl rfl rfl Tryz.underlying370 rfl I370.h rfl (fun w h=>h.cells 0 rfl) [] (fun _ h=>h.sel [] rfl) ⟨by rw[wt_bad hnm (bool_f (fun k=>by have k2:=(numW_iff s).1 k;exact ff (k2.2.2 j (by omega)) hdg))]<;>rfl,rfl⟩
 have hdg:=neg_f cc2
 refine J9 ?_
 refine E1 ?_
 exact KV.loopI (z:=j) (j+1) ⟨by omega,fun k hk=>by by_cases e:k=j;(subst e;exact hdg);exact hinv.2 k (by omega)⟩ (by omega) (sb rfl) (fun _ h=>h)
 refine J12 ?_
 refine RV.op (Yc [] (F:=[_]) rfl rfl (fun w h=>parseUint_fn s h0 (mem_getD (fun k hk=>hinv.2 k (by omega))) hl (EvR.keep h hE (hI _))) (fun v L' hp=>?_))
 obtain⟨⟨x,er,rfl,hok,hbad⟩,rfl⟩:=hp
 simp only[List.append_nil]
 refine J11 ?_
 refine Jr (neqNil_d (p:=valD 0 s<18446744073709551616) Tryz.underlying390 rfl (fun k=>(hok k).2) hbad) ?_
 by_cases hv: ¬valD 0 s<18446744073709551616
 rw[decide_eq_true hv]
 refine J5 ?_
 refine Jr (Step.build rfl (Bd370_)) ?_
 refine Zw 0 [_,_,_] #[_,_,_] ?_
 refine J5 ?_
 exact KV.retC2 [_,_,_] rfl rfl rfl Tryz.underlying370 rfl I370.h rfl (fun w h=>h.cells 0 rfl) [] (fun _ h=>h.sel [] rfl) ⟨by rw[wt_big hnm hv]<;>rfl,rfl⟩
 rw[decide_eq_false hv]
 obtain⟨rfl,rfl⟩:=hok (Decidable.not_not.1 hv)
 refine J8 ?_
 refine Jr (Step.build rfl (Bd370_0_2 _ _)) ?_
 refine Zw 0 [_,_,_] #[_,_,_] ?_
 refine J4 ?_
 exact KV.retC2 [_,_,_] rfl rfl rfl Tryz.underlying370 rfl I370.h rfl (fun w h=>h.cells 0 rfl) [] (fun _ h=>h.sel [] rfl) ⟨by rw[wt_num hnm ((numW_iff s).2 ⟨h0,by first|(left;omega)|(right;exact fun e=>h2 (by rw[e];rfl))|(left;have:0<s.length:=List.length_pos_iff.2 h0;omega),fun k hk=>hinv.2 k (by omega)⟩) (Decidable.not_not.1 hv)]<;>rfl,rfl⟩
 refine J15 ?_
 refine J5 ?_
 refine E1 ?_
 refine CV.loopI (fun(j:Nat)=>j≤s.length∧ ∀k,k<j→digB (s.getD k 0)=true) (fun(j:Nat)=>s.length-j) (fun(j:Nat)=>[(0,.string (bs s)),(2,.pointer (some ⟨r,0,none⟩)),(25,.int .i64 s.length),(26,.int .i64 j)]) (fun(j:Nat)=>Hp I w [Blk r (.cells #[.int .i64 (0),.string (bs ([])),.int .u64 (0)] 370 (0,0))]) (0) ⟨Nat.zero_le _,fun k hk=>by omega⟩ (sb rfl) (fun _ h=>h) ?_
 intro j hinv
 refine J2 ?_
 refine Jlt rfl rfl (fun hj=>?_) (fun hj=>?_)
 refine J15 ?_
 refine J3 ?_
 refine Jr (Step.idxStr Tryz.underlying9 rfl rfl _ rfl (by first|omega|(have:0<s.length:=List.length_pos_iff.2 h0;omega))) ?_
 refine RV.op (Yp rfl (isDigit_fn (s.getD j 0)) ?_)
 refine J3 ?_
 refine KV.cases 33 rfl (fun cc3=>?_) (fun cc3=>?_)
 have hdg:=neg_t cc3
 refine J3 ?_
 refine Jr (Step.build rfl (Bd370_)) ?_
 refine Zw 0 [_,_,_] #[_,_,_] ?_
 refine J9 ?_
 exact KV.retC2 [_,_,_] rfl rfl rfl Tryz.underlying370 rfl I370.h rfl (fun w h=>h.cells 0 rfl) [] (fun _ h=>h.sel [] rfl) ⟨by rw[wt_bad hnm (bool_f (fun k=>by have k2:=(numW_iff s).1 k;exact ff (k2.2.2 j (by omega)) hdg))]<;>rfl,rfl⟩
 have hdg:=neg_f cc3
 refine J9 ?_
 refine E1 ?_
 exact KV.loopI (z:=j) (j+1) ⟨by omega,fun k hk=>by by_cases e:k=j;(subst e;exact hdg);exact hinv.2 k (by omega)⟩ (by omega) (sb rfl) (fun _ h=>h)
 refine J12 ?_
 refine RV.op (Yc [] (F:=[_]) rfl rfl (fun w h=>parseUint_fn s h0 (mem_getD (fun k hk=>hinv.2 k (by omega))) hl (EvR.keep h hE (hI _))) (fun v L' hp=>?_))
 obtain⟨⟨x,er,rfl,hok,hbad⟩,rfl⟩:=hp
 simp only[List.append_nil]
 refine J11 ?_
 refine Jr (neqNil_d (p:=valD 0 s<18446744073709551616) Tryz.underlying390 rfl (fun k=>(hok k).2) hbad) ?_
 by_cases hv: ¬valD 0 s<18446744073709551616
 rw[decide_eq_true hv]
 refine J5 ?_
 refine Jr (Step.build rfl (Bd370_)) ?_
 refine Zw 0 [_,_,_] #[_,_,_] ?_
 refine J5 ?_
 exact KV.retC2 [_,_,_] rfl rfl rfl Tryz.underlying370 rfl I370.h rfl (fun w h=>h.cells 0 rfl) [] (fun _ h=>h.sel [] rfl) ⟨by rw[wt_big hnm hv]<;>rfl,rfl⟩
 rw[decide_eq_false hv]
 obtain⟨rfl,rfl⟩:=hok (Decidable.not_not.1 hv)
 refine J8 ?_
 refine Jr (Step.build rfl (Bd370_0_2 _ _)) ?_
 refine Zw 0 [_,_,_] #[_,_,_] ?_
 refine J4 ?_
 exact KV.retC2 [_,_,_] rfl rfl rfl Tryz.underlying370 rfl I370.h rfl (fun w h=>h.cells 0 rfl) [] (fun _ h=>h.sel [] rfl) ⟨by rw[wt_num hnm ((numW_iff s).2 ⟨h0,by first|(left;omega)|(right;exact fun e=>h2 (by rw[e];rfl))|(left;have:0<s.length:=List.length_pos_iff.2 h0;omega),fun k hk=>hinv.2 k (by omega)⟩) (Decidable.not_not.1 hv)]<;>rfl,rfl⟩
theorem word3_fn (s:Bs) (hl:s.length≤1000000) {w:World} (hE:EvR w):Fx Tryz.prog 179 [.string (bs s)] w [] no (fun v L=>((wordTok s=some (.nm s)∧v= .tuple #[.agg #[.int .i64 1,.string (bs s),.int .u64 0],.bool true])∨(∃x,wordTok s=some (.num x)∧v= .tuple #[.agg #[.int .i64 2,.string (bs []),.int .u64 x],.bool true])∨(wordTok s=none∧v= .tuple #[.agg #[.int .i64 0,.string (bs []),.int .u64 0],.bool false]))∧L=[]):=
 (word_fn s hl hE).mono fun v L h=>by
  obtain⟨h1,h2⟩:=h
  refine⟨?_,h2⟩
  unfold wordTok at h1 ⊢
  by_cases hn:isNm s=true
  ·rw[if_pos hn] at h1 ⊢;exact .inl ⟨rfl,h1⟩
  ·rw[if_neg hn] at h1 ⊢
   by_cases hm:numW s=true∧valD 0 s<18446744073709551616
   ·rw[if_pos hm] at h1 ⊢;exact .inr (.inl ⟨_,rfl,h1⟩)
   ·rw[if_neg hm] at h1 ⊢;exact .inr (.inr ⟨rfl,h1⟩)
theorem sp_t {c:UInt8} (h:(c.toNat:Int)=32∨(c.toNat:Int)=9):spB c=true:=decide_eq_true (h.imp (fun k=>UInt8.toNat_inj.1 (show c.toNat=32 by omega)) (fun k=>UInt8.toNat_inj.1 (show c.toNat=9 by omega)))
theorem sp_f {c:UInt8} (h: ¬((c.toNat:Int)=32∨(c.toNat:Int)=9)):spB c=false:=decide_eq_false fun k=>h (k.imp (fun e=>by rw[e];rfl) (fun e=>by rw[e];rfl))
theorem sym_t {c:UInt8} (h:(c.toNat:Int)=58∨(c.toNat:Int)=59∨(c.toNat:Int)=38∨(c.toNat:Int)=61):symB c=true:=decide_eq_true (h.imp (fun k=>UInt8.toNat_inj.1 (show c.toNat=58 by omega)) (fun h=>h.imp (fun k=>UInt8.toNat_inj.1 (show c.toNat=59 by omega)) (fun h=>h.imp (fun k=>UInt8.toNat_inj.1 (show c.toNat=38 by omega)) (fun k=>UInt8.toNat_inj.1 (show c.toNat=61 by omega)))))
theorem sym_f {c:UInt8} (h: ¬((c.toNat:Int)=58∨(c.toNat:Int)=59∨(c.toNat:Int)=38∨(c.toNat:Int)=61)):symB c=false:=decide_eq_false fun k=>h (k.imp (fun e=>by rw[e];rfl) (fun h=>h.imp (fun e=>by rw[e];rfl) (fun h=>h.imp (fun e=>by rw[e];rfl) (fun e=>by rw[e];rfl))))
theorem symT_at {c:UInt8} (h:symB c=true):symT c.toNat=[c]:=by
 have h2:c=58∨c=59∨c=38∨c=61:=of_decide_eq_true h
 rcases h2 with rfl|rfl|rfl|rfl<;>rfl
theorem cut_len (s:Bs):(cutH s).length≤s.length:=(List.takeWhile_sublist _).length_le
structure TZ where
 ts:List MT
 A:Option Addr
 c:Nat
theorem tokenize_fn (s:Bs) (hs:s.length≤1000000) {w:World} (hE:EvR w):Fx Tryz.prog 166 [.string (bs s)] w [] no (fun v L=>(∃ts A c,tk (cutH s)=some ts∧ts.length≤s.length∧v= .tuple #[.slice A ts.length c,.bool true]∧L=[OS 370 tokK A c ts])∨(tk (cutH s)=none∧v= .tuple #[.slice none 0 0,.bool false]∧L=[])):=by
 refine Fb ?_
 intro I hro hI
 refine J9 ?_
 refine RV.op (Yc [] (F:=[]) rfl rfl (fun w h=>scut_fn s hs) (fun v L' hp=>?_))
 obtain⟨rfl,rfl⟩:=hp
 refine J8 ?_
 obtain⟨l,hl0⟩: ∃l,l=cutH s:=⟨_,rfl⟩
 rw[←hl0]
 have hl:l.length≤1000000:=by rw[hl0];exact Nat.le_trans (cut_len s) hs
 refine J6 ?_
 refine KV.heap (fun w h=>h.nilOS (e:=370) (K:=tokK)) ?_
 refine J5 ?_
 refine E1 ?_
 refine CV.loop2 (fun(i:Nat) (T:TZ)=>i≤l.length∧T.ts.length≤i∧Rd l i T.ts) (fun(i:Nat) (T:TZ)=>l.length-i) (fun(i:Nat) (T:TZ)=>[(0,.string (bs l)),(4,.slice T.A T.ts.length T.c),(5,.int .i64 i)]) (fun(i:Nat) (T:TZ)=>Hp I w [OS 370 tokK T.A T.c T.ts]) (0) (⟨[],none,0⟩) ⟨Nat.zero_le _,Nat.le_refl _,Rd.start l⟩ (sb rfl) (fun _ h=>h) ?_
 intro i T hinv
 refine J6 ?_
 refine Jlt rfl rfl (fun hj=>?_) (fun hj=>?_)
 refine J10 ?_
 refine Jr (Step.idxStr Tryz.underlying9 rfl rfl _ rfl (by omega)) ?_
 refine J7 ?_
 refine Jeq rfl rfl (fun c1=>?_) (fun c1=>?_)
 refine J15 ?_
 refine J1 ?_
 refine E1 ?_
 exact KV.loop2 (x:=i) (y:=T) (i+1) (T) ⟨by omega,by omega,hinv.2.2.sp (by omega) (sp_t (by omega))⟩ (by omega) (sb rfl) (fun _ h=>h)
 refine J2 ?_
 refine Jeq rfl rfl (fun c2=>?_) (fun c2=>?_)
 refine J13 ?_
 refine E1 ?_
 exact KV.loop2 (x:=i) (y:=T) (i+1) (T) ⟨by omega,by omega,hinv.2.2.sp (by omega) (sp_t (by omega))⟩ (by omega) (sb rfl) (fun _ h=>h)
 refine J8 ?_
 refine Jeq rfl rfl (fun c3=>?_) (fun c3=>?_)
 refine J15 ?_
 refine J8 ?_
 refine Jr (Step.slStrLH Tryz.underlying9 rfl rfl rfl (i) (i+1) (rfl) (rfl) (by omega) (by omega)) ?_
 refine Jr (Step.build rfl (Bd370_0_1 _ _)) ?_
 refine RV.op (OV.buildSlice (K:=tokK) ([MT.sym (l.getD i 0).toNat]) rfl (Bs356_1_0 _ _ _) rfl (by rw[one_at (by omega)];simp only[flat,List.flatMap_cons,List.flatMap_nil,List.append_nil];show _=[Value.int .i64 3,.string (bs (symT (l.getD i 0).toNat)),.int .u64 0];rw[symT_at (sym_t (by omega))]) (by omega) gno rfl (fun b17_7=>?_))
 refine RV.op (Ye 0 rfl rfl rfl rfl rfl (fun w h=>h.os 1 rfl) (by simp only[List.length_cons,List.length_nil];omega) (fun A2 c2=>?_))
 refine J11 ?_
 refine E1 ?_
 exact KV.loop2 (x:=i) (y:=T) (i+1) (⟨T.ts++[.sym (l.getD i 0).toNat],A2,c2⟩) ⟨by omega,(by simp only[List.length_append,List.length_cons,List.length_nil];omega),hinv.2.2.sym (by omega) (sp_f (by omega)) (sym_t (by omega))⟩ (by omega) (sb rfl) (fun _ h=>h)
 refine J2 ?_
 refine Jeq rfl rfl (fun c4=>?_) (fun c4=>?_)
 refine J15 ?_
 refine J5 ?_
 refine Jr (Step.slStrLH Tryz.underlying9 rfl rfl rfl (i) (i+1) (rfl) (rfl) (by omega) (by omega)) ?_
 refine Jr (Step.build rfl (Bd370_0_1 _ _)) ?_
 refine RV.op (OV.buildSlice (K:=tokK) ([MT.sym (l.getD i 0).toNat]) rfl (Bs356_1_0 _ _ _) rfl (by rw[one_at (by omega)];simp only[flat,List.flatMap_cons,List.flatMap_nil,List.append_nil];show _=[Value.int .i64 3,.string (bs (symT (l.getD i 0).toNat)),.int .u64 0];rw[symT_at (sym_t (by omega))]) (by omega) gno rfl (fun b17_7=>?_))
 refine RV.op (Ye 0 rfl rfl rfl rfl rfl (fun w h=>h.os 1 rfl) (by simp only[List.length_cons,List.length_nil];omega) (fun A2 c2=>?_))
 refine J11 ?_
 refine E1 ?_
 exact KV.loop2 (x:=i) (y:=T) (i+1) (⟨T.ts++[.sym (l.getD i 0).toNat],A2,c2⟩) ⟨by omega,(by simp only[List.length_append,List.length_cons,List.length_nil];omega),hinv.2.2.sym (by omega) (sp_f (by omega)) (sym_t (by omega))⟩ (by omega) (sb rfl) (fun _ h=>h)
 refine J3 ?_
 refine Jeq rfl rfl (fun c5=>?_) (fun c5=>?_)
 refine J15 ?_
 refine J1 ?_
 refine Jr (Step.slStrLH Tryz.underlying9 rfl rfl rfl (i) (i+1) (rfl) (rfl) (by omega) (by omega)) ?_
 refine Jr (Step.build rfl (Bd370_0_1 _ _)) ?_
 refine RV.op (OV.buildSlice (K:=tokK) ([MT.sym (l.getD i 0).toNat]) rfl (Bs356_1_0 _ _ _) rfl (by rw[one_at (by omega)];simp only[flat,List.flatMap_cons,List.flatMap_nil,List.append_nil];show _=[Value.int .i64 3,.string (bs (symT (l.getD i 0).toNat)),.int .u64 0];rw[symT_at (sym_t (by omega))]) (by omega) gno rfl (fun b17_7=>?_))
 refine RV.op (Ye 0 rfl rfl rfl rfl rfl (fun w h=>h.os 1 rfl) (by simp only[List.length_cons,List.length_nil];omega) (fun A2 c2=>?_))
 refine J11 ?_
 refine E1 ?_
 exact KV.loop2 (x:=i) (y:=T) (i+1) (⟨T.ts++[.sym (l.getD i 0).toNat],A2,c2⟩) ⟨by omega,(by simp only[List.length_append,List.length_cons,List.length_nil];omega),hinv.2.2.sym (by omega) (sp_f (by omega)) (sym_t (by omega))⟩ (by omega) (sb rfl) (fun _ h=>h)
 refine J3 ?_
 refine Jeq rfl rfl (fun c6=>?_) (fun c6=>?_)
 refine J12 ?_
 refine Jr (Step.slStrLH Tryz.underlying9 rfl rfl rfl (i) (i+1) (rfl) (rfl) (by omega) (by omega)) ?_
 refine Jr (Step.build rfl (Bd370_0_1 _ _)) ?_
 refine RV.op (OV.buildSlice (K:=tokK) ([MT.sym (l.getD i 0).toNat]) rfl (Bs356_1_0 _ _ _) rfl (by rw[one_at (by omega)];simp only[flat,List.flatMap_cons,List.flatMap_nil,List.append_nil];show _=[Value.int .i64 3,.string (bs (symT (l.getD i 0).toNat)),.int .u64 0];rw[symT_at (sym_t (by omega))]) (by omega) gno rfl (fun b17_7=>?_))
 refine RV.op (Ye 0 rfl rfl rfl rfl rfl (fun w h=>h.os 1 rfl) (by simp only[List.length_cons,List.length_nil];omega) (fun A2 c2=>?_))
 refine J11 ?_
 refine E1 ?_
 exact KV.loop2 (x:=i) (y:=T) (i+1) (⟨T.ts++[.sym (l.getD i 0).toNat],A2,c2⟩) ⟨by omega,(by simp only[List.length_append,List.length_cons,List.length_nil];omega),hinv.2.2.sym (by omega) (sp_f (by omega)) (sym_t (by omega))⟩ (by omega) (sb rfl) (fun _ h=>h)
 refine J9 ?_
 refine Jr (Step.slStrLo Tryz.underlying9 rfl rfl (i) (rfl) (by omega)) ?_
 refine RV.op (Yp rfl (spfx_fn (l.drop i) [45,62]) ?_)
 by_cases har:([45,62]:Bs).length≤(l.drop i).length∧(l.drop i).take ([45,62]:Bs).length=[45,62]
 rw[decide_eq_true har]
 have har2:i+2≤l.length:=by have h5:2≤(l.drop i).length:=har.1;rw[List.length_drop] at h5;omega
 refine J7 ?_
 refine Jr (Step.build rfl (Bd370_0_1 _ _)) ?_
 refine RV.op (OV.buildSlice (K:=tokK) ([MT.sym 62]) rfl (Bs356_1_0 _ _ _) rfl rfl (by omega) gno rfl (fun b20_2=>?_))
 refine RV.op (Ye 0 rfl rfl rfl rfl rfl (fun w h=>h.os 1 rfl) (by simp only[List.length_cons,List.length_nil];omega) (fun A2 c2=>?_))
 refine J11 ?_
 refine E1 ?_
 exact KV.loop2 (x:=i) (y:=T) (i+2) (⟨T.ts++[.sym 62],A2,c2⟩) ⟨by omega,(by simp only[List.length_append,List.length_cons,List.length_nil];omega),hinv.2.2.arr har⟩ (by omega) (sb rfl) (fun _ h=>h)
 rw[decide_eq_false har]
 refine J12 ?_
 refine E1 ?_
 refine CV.loopI (fun(e:Nat)=>i≤e∧e≤l.length∧ ∀k,i≤k→k<e→wrdB (l.getD k 0)=true) (fun(e:Nat)=>l.length-e) (fun(e:Nat)=>[(0,.string (bs l)),(4,.slice T.A T.ts.length T.c),(5,.int .i64 i),(7,.int .i64 e)]) (fun(e:Nat)=>Hp I w [OS 370 tokK T.A T.c T.ts]) (i) ⟨Nat.le_refl _,by omega,fun k h1 h2=>by omega⟩ (sb rfl) (fun _ h=>h) ?_
 intro e hi2
 refine J6 ?_
 refine Jlt rfl rfl (fun he=>?_) (fun he=>?_)
 refine J3 ?_
 refine Jr (Step.idxStr Tryz.underlying9 rfl rfl _ rfl (by omega)) ?_
 refine RV.op (Yp rfl (isWord_fn (l.getD e 0)) ?_)
 refine J3 ?_
 refine KV.cases 33 rfl (fun cc1=>?_) (fun cc1=>?_)
 have hw:wrdB (l.getD e 0)=true:=cc1
 refine J11 ?_
 refine E1 ?_
 exact KV.loopI (z:=e) (e+1) ⟨by omega,by omega,fun k h1 h2=>by by_cases e2:k=e;(subst e2;exact hw);exact hi2.2.2 k h1 (by omega)⟩ (by omega) (sb rfl) (fun _ h=>h)
 have hw:wrdB (l.getD e 0)=false:=cc1
 refine J7 ?_
 have hend:e=l.length∨wrdB (l.getD e 0)=false:=by first|exact .inr hw|(left;omega)
 obtain⟨hWn,hWs⟩:=hinv.2.2.word (by omega) (sp_f (by omega)) (sym_f (by omega)) har hi2.1 hi2.2.1 hi2.2.2 hend
 refine J4 ?_
 refine Jr (Step.slStrLH Tryz.underlying9 rfl rfl rfl (i) (e) (rfl) (rfl) (by omega) (by omega)) ?_
 refine RV.op (Yc [] (F:=[_]) rfl rfl (fun w h=>word3_fn ((l.take e).drop i) (by rw[List.length_drop,List.length_take];omega) (EvR.keep h hE (hI _))) (fun v L' hp=>?_))
 obtain⟨hv,rfl⟩:=hp
 simp only[List.append_nil]
 rcases hv with ⟨hwt,rfl⟩|⟨x,hwt,rfl⟩|⟨hwt,rfl⟩
 refine J3 ?_
 refine RV.op (OV.alloc #[.int .i64 0,.string (Sv.bs []),.int .u64 0] I370.h rfl gno rfl (fun q=>?_))
 refine Zw 1 [_,_,_] #[_,_,_] ?_
 refine J15 ?_
 refine J2 ?_
 refine RV.op (OV.buildSlice (K:=tokK) ([MT.nm ((l.take e).drop i)]) rfl (Bs356_1_0 _ _ _) rfl rfl (by omega) gno rfl (fun b12_2=>?_))
 refine RV.op (Ye 0 rfl rfl rfl rfl rfl (fun w h=>h.os 2 rfl) (by simp only[List.length_cons,List.length_nil];omega) (fun A2 c2=>?_))
 refine J10 ?_
 refine E1 ?_
 exact KV.loop2 (x:=i) (y:=T) (e) (⟨T.ts++[.nm ((l.take e).drop i)],A2,c2⟩) ⟨by omega,(by have:=(hWs _ hwt).1;simp only[List.length_append,List.length_cons,List.length_nil];omega),(hWs _ hwt).2⟩ ((by have:=(hWs _ hwt).1;omega)) (sb rfl) (fun _ h=>h)
 refine J3 ?_
 refine RV.op (OV.alloc #[.int .i64 0,.string (Sv.bs []),.int .u64 0] I370.h rfl gno rfl (fun q=>?_))
 refine Zw 1 [_,_,_] #[_,_,_] ?_
 refine J15 ?_
 refine J2 ?_
 refine RV.op (OV.buildSlice (K:=tokK) ([MT.num x]) rfl (Bs356_1_0 _ _ _) rfl rfl (by omega) gno rfl (fun b12_2=>?_))
 refine RV.op (Ye 0 rfl rfl rfl rfl rfl (fun w h=>h.os 2 rfl) (by simp only[List.length_cons,List.length_nil];omega) (fun A2 c2=>?_))
 refine J10 ?_
 refine E1 ?_
 exact KV.loop2 (x:=i) (y:=T) (e) (⟨T.ts++[.num x],A2,c2⟩) ⟨by omega,(by have:=(hWs _ hwt).1;simp only[List.length_append,List.length_cons,List.length_nil];omega),(hWs _ hwt).2⟩ ((by have:=(hWs _ hwt).1;omega)) (sb rfl) (fun _ h=>h)
 refine J3 ?_
 refine RV.op (OV.alloc #[.int .i64 0,.string (Sv.bs []),.int .u64 0] I370.h rfl gno rfl (fun q=>?_))
 refine Zw 1 [_,_,_] #[_,_,_] ?_
 refine J15 ?_
 refine J9 ?_
 refine E0 ?_
 exact Rc rfl rfl rfl (.inr ⟨hWn hwt,rfl,rfl⟩)
 refine J15 ?_
 have hend:e=l.length∨wrdB (l.getD e 0)=false:=by first|exact .inr hw|(left;omega)
 obtain⟨hWn,hWs⟩:=hinv.2.2.word (by omega) (sp_f (by omega)) (sym_f (by omega)) har hi2.1 hi2.2.1 hi2.2.2 hend
 refine J4 ?_
 refine Jr (Step.slStrLH Tryz.underlying9 rfl rfl rfl (i) (e) (rfl) (rfl) (by omega) (by omega)) ?_
 refine RV.op (Yc [] (F:=[_]) rfl rfl (fun w h=>word3_fn ((l.take e).drop i) (by rw[List.length_drop,List.length_take];omega) (EvR.keep h hE (hI _))) (fun v L' hp=>?_))
 obtain⟨hv,rfl⟩:=hp
 simp only[List.append_nil]
 rcases hv with ⟨hwt,rfl⟩|⟨x,hwt,rfl⟩|⟨hwt,rfl⟩
 refine J3 ?_
 refine RV.op (OV.alloc #[.int .i64 0,.string (Sv.bs []),.int .u64 0] I370.h rfl gno rfl (fun q=>?_))
 refine Zw 1 [_,_,_] #[_,_,_] ?_
 refine J15 ?_
 refine J2 ?_
 refine RV.op (OV.buildSlice (K:=tokK) ([MT.nm ((l.take e).drop i)]) rfl (Bs356_1_0 _ _ _) rfl rfl (by omega) gno rfl (fun b12_2=>?_))
 refine RV.op (Ye 0 rfl rfl rfl rfl rfl (fun w h=>h.os 2 rfl) (by simp only[List.length_cons,List.length_nil];omega) (fun A2 c2=>?_))
 refine J10 ?_
 refine E1 ?_
 exact KV.loop2 (x:=i) (y:=T) (e) (⟨T.ts++[.nm ((l.take e).drop i)],A2,c2⟩) ⟨by omega,(by have:=(hWs _ hwt).1;simp only[List.length_append,List.length_cons,List.length_nil];omega),(hWs _ hwt).2⟩ ((by have:=(hWs _ hwt).1;omega)) (sb rfl) (fun _ h=>h)
 refine J3 ?_
 refine RV.op (OV.alloc #[.int .i64 0,.string (Sv.bs []),.int .u64 0] I370.h rfl gno rfl (fun q=>?_))
 refine Zw 1 [_,_,_] #[_,_,_] ?_
 refine J15 ?_
 refine J2 ?_
 refine RV.op (OV.buildSlice (K:=tokK) ([MT.num x]) rfl (Bs356_1_0 _ _ _) rfl rfl (by omega) gno rfl (fun b12_2=>?_))
 refine RV.op (Ye 0 rfl rfl rfl rfl rfl (fun w h=>h.os 2 rfl) (by simp only[List.length_cons,List.length_nil];omega) (fun A2 c2=>?_))
 refine J10 ?_
 refine E1 ?_
 exact KV.loop2 (x:=i) (y:=T) (e) (⟨T.ts++[.num x],A2,c2⟩) ⟨by omega,(by have:=(hWs _ hwt).1;simp only[List.length_append,List.length_cons,List.length_nil];omega),(hWs _ hwt).2⟩ ((by have:=(hWs _ hwt).1;omega)) (sb rfl) (fun _ h=>h)
 refine J3 ?_
 refine RV.op (OV.alloc #[.int .i64 0,.string (Sv.bs []),.int .u64 0] I370.h rfl gno rfl (fun q=>?_))
 refine Zw 1 [_,_,_] #[_,_,_] ?_
 refine J15 ?_
 refine J9 ?_
 refine E0 ?_
 exact Rc rfl rfl rfl (.inr ⟨hWn hwt,rfl,rfl⟩)
 refine J15 ?_
 refine J1 ?_
 obtain rfl:i=l.length:=by omega
 exact Rc rfl rfl rfl (.inl ⟨T.ts,T.A,T.c,by exact hinv.2.2.fin,by have:=cut_len s;rw[←hl0] at this;omega,rfl,rfl⟩)
end Go.Proofs.YtkofjhglgoojiaaGreatDoor.Dv
