/-
  Joined.
-/
import Derived.Test.YtkofjhglgoojiaaGreatDoorP35
set_option linter.unusedSimpArgs false
set_option linter.unusedVariables false
namespace Go.Proofs.YtkofjhglgoojiaaGreatDoor.Is
set_option maxRecDepth 100000
set_option maxHeartbeats 20000000
open Go.Tk Go.Sv Go.Ios
attribute [local irreducible] KV SV OV Step Code.wp wpList Exit.then Exit.inBlock Blk OS Big Bun
theorem ordinary_fn (x:Int):FxP Tryz.prog 72 [.int .i64 x] (.bool (decide (0≤x∧x<3))):=by
 refine Fp ?_
 intro wp
 refine J8 ?_
 refine Jge rfl rfl (fun cc1=>?_) (fun cc1=>?_)
 refine J2 ?_
 refine Jle rfl rfl (fun cc2=>?_) (fun cc2=>?_)
 refine J5 ?_
 exact KV.retP1 rfl rfl (by first|rw[decide_eq_true (show 0≤x∧x<3 by omega)]|rw[decide_eq_false (show ¬(0≤x∧x<3) by omega)])
 refine J5 ?_
 exact KV.retP1 rfl rfl (by first|rw[decide_eq_true (show 0≤x∧x<3 by omega)]|rw[decide_eq_false (show ¬(0≤x∧x<3) by omega)])
 refine J8 ?_
 exact KV.retP1 rfl rfl (by first|rw[decide_eq_true (show 0≤x∧x<3 by omega)]|rw[decide_eq_false (show ¬(0≤x∧x<3) by omega)])
theorem rvalid_fn (b l:Int) (hb:isU b) {w:World}:Fx Tryz.prog 73 [.agg #[.int .u64 b,.int .u64 l]] w [] no (fun v L=>v= .bool (decide (okR b l))∧L=[]):=by
 refine Fb ?_
 intro I hro hI
 unfold isU at hb
 refine J2 ?_
 refine RV.op (Yb #[_,_] rfl rfl (fun b0_0=>?_))
 refine J7 ?_
 refine Jge rfl rfl (fun cc1=>?_) (fun cc1=>?_)
 refine J3 ?_
 refine Jle rfl rfl (fun cc2=>?_) (fun cc2=>?_)
 refine J8 ?_
 refine Jle rfl rfl (fun cc3=>?_) (fun cc3=>?_)
 refine J5 ?_
 refine E0 ?_
 first|(refine KV.ret1 rfl rfl _ (fun _ h=>h) ⟨?_,rfl⟩;rw[decide_eq_true (show okR b l by unfold okR;omega)])|(refine KV.ret1 rfl rfl _ (fun _ h=>h) ⟨?_,rfl⟩;rw[decide_eq_false (show ¬(okR b l) by unfold okR;omega)])
 refine J5 ?_
 refine E0 ?_
 first|(refine KV.ret1 rfl rfl _ (fun _ h=>h) ⟨?_,rfl⟩;rw[decide_eq_true (show okR b l by unfold okR;omega)])|(refine KV.ret1 rfl rfl _ (fun _ h=>h) ⟨?_,rfl⟩;rw[decide_eq_false (show ¬(okR b l) by unfold okR;omega)])
 refine J14 ?_
 refine E0 ?_
 first|(refine KV.ret1 rfl rfl _ (fun _ h=>h) ⟨?_,rfl⟩;rw[decide_eq_true (show okR b l by unfold okR;omega)])|(refine KV.ret1 rfl rfl _ (fun _ h=>h) ⟨?_,rfl⟩;rw[decide_eq_false (show ¬(okR b l) by unfold okR;omega)])
 refine J15 ?_
 refine J3 ?_
 refine E0 ?_
 first|(refine KV.ret1 rfl rfl _ (fun _ h=>h) ⟨?_,rfl⟩;rw[decide_eq_true (show okR b l by unfold okR;omega)])|(refine KV.ret1 rfl rfl _ (fun _ h=>h) ⟨?_,rfl⟩;rw[decide_eq_false (show ¬(okR b l) by unfold okR;omega)])
theorem has_fn {b l x:Int} (hb:isU b) (hx:isU x) {w:World}:Fx Tryz.prog 116 [.agg #[.int .u64 b,.int .u64 l],.int .u64 x] w [] no (fun v L=>v= .bool (decide (hasR b l x))∧L=[]):=by
 refine Fb ?_
 intro I hro hI
 unfold isU at hb hx
 refine J2 ?_
 refine RV.op (Yb #[_,_] rfl rfl (fun b0_0=>?_))
 refine J8 ?_
 refine Jge rfl rfl (fun cc1=>?_) (fun cc1=>?_)
 refine J7 ?_
 refine Jlt rfl rfl (fun cc2=>?_) (fun cc2=>?_)
 refine J5 ?_
 refine E0 ?_
 first|(refine KV.ret1 rfl rfl _ (fun _ h=>h) ⟨?_,rfl⟩;rw[decide_eq_true (show hasR b l x by unfold hasR;omega)])|(refine KV.ret1 rfl rfl _ (fun _ h=>h) ⟨?_,rfl⟩;rw[decide_eq_false (show ¬(hasR b l x) by unfold hasR;omega)])
 refine J5 ?_
 refine E0 ?_
 first|(refine KV.ret1 rfl rfl _ (fun _ h=>h) ⟨?_,rfl⟩;rw[decide_eq_true (show hasR b l x by unfold hasR;omega)])|(refine KV.ret1 rfl rfl _ (fun _ h=>h) ⟨?_,rfl⟩;rw[decide_eq_false (show ¬(hasR b l x) by unfold hasR;omega)])
 refine J13 ?_
 refine E0 ?_
 first|(refine KV.ret1 rfl rfl _ (fun _ h=>h) ⟨?_,rfl⟩;rw[decide_eq_true (show hasR b l x by unfold hasR;omega)])|(refine KV.ret1 rfl rfl _ (fun _ h=>h) ⟨?_,rfl⟩;rw[decide_eq_false (show ¬(hasR b l x) by unfold hasR;omega)])
theorem roverlap_fn {b l b2 l2:Int} (hb:isU b) (hb2:isU b2) {w:World}:Fx Tryz.prog 74 [.agg #[.int .u64 b,.int .u64 l],.agg #[.int .u64 b2,.int .u64 l2]] w [] no (fun v L=>v= .bool (decide (ovR b l b2 l2))∧L=[]):=by
 refine Fb ?_
 intro I hro hI
 refine J2 ?_
 refine RV.op (Yb #[_,_] rfl rfl (fun b0_0=>?_))
 refine RV.op (Yb #[_,_] rfl rfl (fun b0_1=>?_))
 refine J8 ?_
 refine RV.op (Yc [] (F:=[_,_]) rfl rfl (fun w h=>has_fn (b:=b) (l:=l) (x:=b2) hb hb2) (fun v L' hp=>?_))
 obtain⟨rfl,rfl⟩:=hp
 by_cases h1:hasR b l b2
 rw[decide_eq_true h1]
 refine J10 ?_
 refine E0 ?_
 first|(refine KV.ret1 rfl rfl _ (fun _ h=>h) ⟨?_,rfl⟩;rw[decide_eq_true (show ovR b l b2 l2 by first|exact .inl h1|exact .inr h2)])|(refine KV.ret1 rfl rfl _ (fun _ h=>h) ⟨?_,rfl⟩;rw[decide_eq_false (show ¬ovR b l b2 l2 from fun k=>k.elim h1 h2)])
 rw[decide_eq_false h1]
 refine J4 ?_
 refine RV.op (Yc [] (F:=[_,_]) rfl rfl (fun w h=>has_fn (b:=b2) (l:=l2) (x:=b) hb2 hb) (fun v L' hp=>?_))
 obtain⟨rfl,rfl⟩:=hp
 by_cases h2:hasR b2 l2 b
 rw[decide_eq_true h2]
 refine J5 ?_
 refine E0 ?_
 first|(refine KV.ret1 rfl rfl _ (fun _ h=>h) ⟨?_,rfl⟩;rw[decide_eq_true (show ovR b l b2 l2 by first|exact .inl h1|exact .inr h2)])|(refine KV.ret1 rfl rfl _ (fun _ h=>h) ⟨?_,rfl⟩;rw[decide_eq_false (show ¬ovR b l b2 l2 from fun k=>k.elim h1 h2)])
 rw[decide_eq_false h2]
 refine J5 ?_
 refine E0 ?_
 first|(refine KV.ret1 rfl rfl _ (fun _ h=>h) ⟨?_,rfl⟩;rw[decide_eq_true (show ovR b l b2 l2 by first|exact .inl h1|exact .inr h2)])|(refine KV.ret1 rfl rfl _ (fun _ h=>h) ⟨?_,rfl⟩;rw[decide_eq_false (show ¬ovR b l b2 l2 from fun k=>k.elim h1 h2)])
theorem renable_fn (b:Nat) (s:RB) {w:World} (hk:s.ok) (o:Int) (v:Bool):Fx Tryz.prog 36 [.pointer (some ⟨b,0,none⟩),.int .i64 o,.bool v] w (rbL b s) no (fun r L=>(¬(0≤o∧o<256)→r= .int .i64 1∧L=rbL b s)∧(0≤o∧o<256→r= .int .i64 0∧L=rbL b {s with en:=s.en.set o.toNat v})):=by
 refine Fb ?_
 intro I hro hI
 have hw:=hk.en
 have hmx:=hk.max
 have hfx:=hk.fl
 refine J9 ?_
 refine Jlt rfl rfl (fun h1=>?_) (fun h1=>?_)
 refine J14 ?_
 refine E5 ?_
 exact Rb rfl rfl ⟨fun _=>⟨rfl,rfl⟩,fun h=>by exfalso;omega⟩
 refine J2 ?_
 refine Jge rfl rfl (fun h2=>?_) (fun h2=>?_)
 refine J11 ?_
 refine E5 ?_
 exact Rb rfl rfl ⟨fun _=>⟨rfl,rfl⟩,fun h=>by exfalso;omega⟩
 obtain⟨m,rfl⟩:=Int.eq_ofNat_of_zero_le (show 0≤o by omega)
 refine J11 ?_
 refine Jp rfl ?_
 refine J1 ?_
 refine Jr (Step.idxArr Tryz.underlying55 I4.h rfl rfl _ rfl (by omega)) ?_
 refine RV.op (OV.store 0 [_] (rbC {s with en:=s.en.set m v}).toArray I4.h rfl rfl rfl rfl rfl (by show _+1≤(rbC _).toArray.size;rw[List.size_toArray,rbC_len hw];omega) (by simp[Value.oneCell']) (rset_of hw (by omega) (rset_en hw (by omega) v)) gno ?_)
 refine J8 ?_
 refine E5 ?_
 exact Rb rfl rfl ⟨fun h=>by exfalso;omega,fun _=>⟨rfl,rfl⟩⟩
theorem rmap_fn (b:Nat) (s:RB) {w:World} (hk:s.ok) (z p0 q0 o:Int) (hp0:isU p0):Fx Tryz.prog 34 [.pointer (some ⟨b,0,none⟩),.int .i64 z,.agg #[.int .u64 p0,.int .u64 q0],.int .i64 o] w (rbL b s) no (fun r L=>(¬((0≤z∧z<3)∧okR p0 q0∧0≤o∧o<256)→r= .int .i64 1∧L=rbL b s)∧((0≤z∧z<3)∧okR p0 q0∧0≤o∧o<256→((∃i,i<s.ms.length∧busyR s.ms z p0 q0 i)→r= .int .i64 17∧L=rbL b s)∧((∀i,i<s.ms.length→ ¬busyR s.ms z p0 q0 i)→(s.ms.length=256→r= .int .i64 8∧L=rbL b s)∧(s.ms.length≠256→r= .int .i64 0∧ ∃A A2 c2,L=rbL b (radd s (rnew z p0 q0 o A) A2 c2))))):=by
 refine Fb ?_
 intro I hro hI
 have hw:=hk.en
 have hmx:=hk.max
 have hfx:=hk.fl
 refine J2 ?_
 refine RV.op (Yb #[_,_] rfl rfl (fun b0_0=>?_))
 refine J7 ?_
 refine RV.op (Yc [] rfl rfl (fun w h=>(ordinary_fn z).fn w) (fun v L' hp=>?_))
 obtain⟨rfl,rfl⟩:=hp
 by_cases hz:0≤z∧z<3
 rw[decide_eq_true hz]
 refine J3 ?_
 refine RV.op (Yc [] (F:=[_,_,_,_,_,_]) rfl rfl (fun w h=>rvalid_fn p0 q0 hp0) (fun v L' hp=>?_))
 obtain⟨rfl,rfl⟩:=hp
 by_cases hr:okR p0 q0
 rw[decide_eq_true hr]
 refine J4 ?_
 refine Jlt rfl rfl (fun h1=>?_) (fun h1=>?_)
 refine J15 ?_
 refine E5 ?_
 have hbad: ¬((0≤z∧z<3)∧okR p0 q0∧0≤o∧o<256):=by first|exact fun k=>hz k.1|exact fun k=>hr k.2.1|(intro k;omega)
 exact Rb rfl rfl ⟨fun _=>⟨rfl,rfl⟩,fun h=>absurd h hbad⟩
 refine J3 ?_
 refine Jge rfl rfl (fun h2=>?_) (fun h2=>?_)
 refine J11 ?_
 refine E5 ?_
 have hbad: ¬((0≤z∧z<3)∧okR p0 q0∧0≤o∧o<256):=by first|exact fun k=>hz k.1|exact fun k=>hr k.2.1|(intro k;omega)
 exact Rb rfl rfl ⟨fun _=>⟨rfl,rfl⟩,fun h=>absurd h hbad⟩
 refine J13 ?_
 refine E6 ?_
 refine CV.loopI (fun(j:Nat)=>j≤s.ms.length∧ ∀k,k<j→ ¬busyR s.ms z p0 q0 k) (fun(j:Nat)=>s.ms.length-j) (fun(j:Nat)=>[(0,.pointer (some ⟨b,0,none⟩)),(1,.int .i64 z),(3,.int .i64 o),(6,.pointer (some ⟨b0_0,0,none⟩)),(9,.int .i64 j)]) (fun(j:Nat)=>Hp I w (rbL b s++[Blk b0_0 (.cells #[.int .u64 p0,.int .u64 q0] 119 (0,0))])) (0) ⟨Nat.zero_le _,fun i hi=>by omega⟩ (sb rfl) (fun _ h=>h) ?_
 intro j hinv
 refine J5 ?_
 refine Jp rfl ?_
 refine J1 ?_
 refine Jr (Tc rfl (fun w h=>h.cell 0 rfl (rbC_m hw))) ?_
 refine J1 ?_
 refine Jlt rfl rfl (fun hj=>?_) (fun hj=>?_)
 refine J8 ?_
 refine E6 ?_
 refine An (Hp I w (rbL b s++[Blk b0_0 (.cells #[.int .u64 p0,.int .u64 q0] 119 (0,0))])) 22 ?_
 refine W 0 ?_
 refine W 1 ?_
 refine W 2 ?_
 refine Wt 3 rfl (Tc rfl (fun w h=>h.cell 0 rfl (rbC_m hw))) ?_
 refine W 4 ?_
 refine W 5 ?_
 refine W 6 ?_
 refine W 7 ?_
 refine W 8 ?_
 refine W 9 ?_
 refine W 10 ?_
 refine KV.cases 45 rfl (fun cc1=>?_) (fun cc1=>?_)
 have e1:=of_decide_eq_true cc1
 refine W 11 ?_
 refine W 12 ?_
 refine W 13 ?_
 refine Wt 14 rfl (Tc rfl (fun w h=>h.cell 0 rfl (rbC_m hw))) ?_
 refine W 15 ?_
 refine W 16 ?_
 refine W 17 ?_
 refine Wt 18 rfl (Tw rfl (fun w h=>rngR (h.os 1 rfl) (i:=j) (by omega))) ?_
 refine W 19 ?_
 refine V1 20 ?_
 refine Yc [] (F:=[_,_,_,_,_,_]) rfl rfl (fun w h=>roverlap_fn (b:=(rh s.ms j).base) (l:=(rh s.ms j).len) (b2:=p0) (l2:=q0) (hk.each j (by omega)).b hp0) (fun v L' hp=>?_)
 obtain⟨rfl,rfl⟩:=hp
 refine Wn ?_
 refine W 21 ?_
 refine Vd ?_
 refine J1 ?_
 refine KV.cases 56 rfl (fun cc2=>?_) (fun cc2=>?_)
 have e2:=of_decide_eq_true cc2
 refine J12 ?_
 refine E5 ?_
 have hgd:((0≤z∧z<3)∧okR p0 q0∧0≤o∧o<256):=⟨hz,hr,by omega,by omega⟩
 exact Rb rfl rfl ⟨fun h=>absurd hgd h,fun _=>⟨fun _=>⟨rfl,rfl⟩,fun h=>absurd ⟨e1,e2⟩ (h j (by omega))⟩⟩
 have e2:=of_decide_eq_false cc2
 refine J10 ?_
 refine E6 ?_
 have hnb: ¬busyR s.ms z p0 q0 j:=fun k=>by first|exact e2 k.2|exact e1 k.1
 exact KV.loopI (z:=j) (j+1) ⟨by omega,fun i hi=>by by_cases e:i=j;(subst e;exact hnb);exact hinv.2 i (by omega)⟩ (by omega) (sb rfl) (fun _ h=>h)
 have e1:=of_decide_eq_false cc1
 refine Wk 11 ?_
 refine Wk 12 ?_
 refine Wk 13 ?_
 refine Wk 14 ?_
 refine Wk 15 ?_
 refine Wk 16 ?_
 refine Wk 17 ?_
 refine Wk 18 ?_
 refine Wk 19 ?_
 refine Wk 20 ?_
 refine W 21 ?_
 refine Vd ?_
 refine J11 ?_
 refine E6 ?_
 have hnb: ¬busyR s.ms z p0 q0 j:=fun k=>by first|exact e2 k.2|exact e1 k.1
 exact KV.loopI (z:=j) (j+1) ⟨by omega,fun i hi=>by by_cases e:i=j;(subst e;exact hnb);exact hinv.2 i (by omega)⟩ (by omega) (sb rfl) (fun _ h=>h)
 refine J12 ?_
 refine Jp rfl ?_
 refine J1 ?_
 refine Jr (Tc rfl (fun w h=>h.cell 0 rfl (rbC_m hw))) ?_
 refine J1 ?_
 refine Jge rfl rfl (fun hq=>?_) (fun hq=>?_)
 refine J10 ?_
 refine E5 ?_
 have hgd:((0≤z∧z<3)∧okR p0 q0∧0≤o∧o<256):=⟨hz,hr,by omega,by omega⟩
 exact Rb rfl rfl ⟨fun h=>absurd hgd h,fun _=>⟨fun⟨i,h3,h4⟩=>absurd h4 (hinv.2 i (by omega)),fun _=>⟨fun _=>⟨rfl,rfl⟩,fun h=>absurd (by omega) h⟩⟩⟩
 refine J5 ?_
 refine CV.join3 (fun(A2:Option Addr) (c2:Nat) (By:Option Addr)=>[]) (fun(A2:Option Addr) (c2:Nat) (By:Option Addr)=>Hp I w (rbL b (radd s (rnew z p0 q0 o By) A2 c2))) ?_ ?_
 have hr2:=hr
 unfold okR at hr2
 refine E6 ?_
 refine An (Hp I w [Blk b0_0 (.cells #[.int .u64 p0,.int .u64 q0] 119 (0,0))]) 17 ?_
 refine W 0 ?_
 refine W 1 ?_
 refine W 2 ?_
 refine W 3 ?_
 refine W 5 ?_
 refine W 6 ?_
 refine W 7 ?_
 refine W 8 ?_
 refine W 9 ?_
 refine V2 4 10 ?_ ?_
 refine OV.step gno (Tc rfl (fun w h=>h.cell 0 rfl (rbC_m hw))) rfl ?_
 refine Wn ?_
 refine V1 10 ?_
 refine OV.make (K:=intK .u8) (q0.toNat) (q0.toNat) (0) Tryz.underlying208 I5.h rfl rfl rfl (by omega) (by omega) (by omega) (by omega) (by omega) gno rfl (fun By=>?_)
 refine Wn ?_
 refine Wt 11 rfl (Step.build rfl (Bd215_0_1_2_3 _ _ _ _ _ _ _)) ?_
 refine V1 12 ?_
 refine OV.buildSlice (K:=rhK) ([(rnew z p0 q0 o By)]) rfl (Bs54_1_0 _ _ _ _ _) rfl (by simp[flat,rhK,rnew]) (by omega) gno rfl (fun b10_12=>?_)
 refine Wn ?_
 refine V1 13 ?_
 refine Ye 1 rfl rfl rfl rfl rfl (fun w h=>h.os 7 rfl) (by simp only[List.length_cons,List.length_nil];omega) (fun A2 c2=>?_)
 refine Wn ?_
 refine W 14 ?_
 refine W 15 ?_
 refine V1 16 ?_
 refine OV.store 0 [_] (rbC (radd s (rnew z p0 q0 o By) A2 c2)).toArray I54.h rfl rfl rfl rfl rfl (by show _+1≤(rbC _).toArray.size;rw[List.size_toArray,rbC_len hw];omega) (by simp[Value.oneCell']) (rset_of hw (by omega) (rset_m hw A2 c2 (s.ms++[(rnew z p0 q0 o By)]))) gno ?_
 refine Wn ?_
 refine Vd ?_
 refine J1 ?_
 refine K6 [0,0,0,0,0,1] rfl ?_
 exact KV.join3 (A2) (c2) (By) trivial (fun _ h=>addR (r:=(rnew z p0 q0 o By)) h)
 refine OV.make (K:=intK .u8) (q0.toNat) (q0.toNat) (0) Tryz.underlying208 I5.h rfl rfl rfl (by omega) (by omega) (by omega) (by omega) (by omega) gno rfl (fun By=>?_)
 refine Wn ?_
 refine Wt 11 rfl (Step.build rfl (Bd215_0_1_2_3 _ _ _ _ _ _ _)) ?_
 refine V2 4 12 ?_ ?_
 refine OV.step gno (Tc rfl (fun w h=>h.cell 0 rfl (rbC_m hw))) rfl ?_
 refine Wn ?_
 refine V1 12 ?_
 refine OV.buildSlice (K:=rhK) ([(rnew z p0 q0 o By)]) rfl (Bs54_1_0 _ _ _ _ _) rfl (by simp[flat,rhK,rnew]) (by omega) gno rfl (fun b10_12=>?_)
 refine Wn ?_
 refine V1 13 ?_
 refine Ye 1 rfl rfl rfl rfl rfl (fun w h=>h.os 7 rfl) (by simp only[List.length_cons,List.length_nil];omega) (fun A2 c2=>?_)
 refine Wn ?_
 refine W 14 ?_
 refine W 15 ?_
 refine V1 16 ?_
 refine OV.store 0 [_] (rbC (radd s (rnew z p0 q0 o By) A2 c2)).toArray I54.h rfl rfl rfl rfl rfl (by show _+1≤(rbC _).toArray.size;rw[List.size_toArray,rbC_len hw];omega) (by simp[Value.oneCell']) (rset_of hw (by omega) (rset_m hw A2 c2 (s.ms++[(rnew z p0 q0 o By)]))) gno ?_
 refine Wn ?_
 refine Vd ?_
 refine J1 ?_
 refine K6 [0,0,0,0,0,1] rfl ?_
 exact KV.join3 (A2) (c2) (By) trivial (fun _ h=>addR (r:=(rnew z p0 q0 o By)) h)
 refine OV.buildSlice (K:=rhK) ([(rnew z p0 q0 o By)]) rfl (Bs54_1_0 _ _ _ _ _) rfl (by simp[flat,rhK,rnew]) (by omega) gno rfl (fun b10_12=>?_)
 refine Wn ?_
 refine V1 4 ?_
 refine OV.step gno (Tc rfl (fun w h=>h.cell 0 rfl (rbC_m hw))) rfl ?_
 refine Wn ?_
 refine V1 13 ?_
 refine Ye 1 rfl rfl rfl rfl rfl (fun w h=>h.os 7 rfl) (by simp only[List.length_cons,List.length_nil];omega) (fun A2 c2=>?_)
 refine Wn ?_
 refine W 14 ?_
 refine W 15 ?_
 refine V1 16 ?_
 refine OV.store 0 [_] (rbC (radd s (rnew z p0 q0 o By) A2 c2)).toArray I54.h rfl rfl rfl rfl rfl (by show _+1≤(rbC _).toArray.size;rw[List.size_toArray,rbC_len hw];omega) (by simp[Value.oneCell']) (rset_of hw (by omega) (rset_m hw A2 c2 (s.ms++[(rnew z p0 q0 o By)]))) gno ?_
 refine Wn ?_
 refine Vd ?_
 refine J1 ?_
 refine K6 [0,0,0,0,0,1] rfl ?_
 exact KV.join3 (A2) (c2) (By) trivial (fun _ h=>addR (r:=(rnew z p0 q0 o By)) h)
 intro A2 c2 By
 refine J6 ?_
 refine E5 ?_
 have hgd:((0≤z∧z<3)∧okR p0 q0∧0≤o∧o<256):=⟨hz,hr,by omega,by omega⟩
 exact Rb rfl rfl ⟨fun h=>absurd hgd h,fun _=>⟨fun⟨i,h3,h4⟩=>absurd h4 (hinv.2 i (by omega)),fun _=>⟨fun h=>absurd h (by omega),fun _=>⟨rfl,_,_,_,rfl⟩⟩⟩⟩
 rw[decide_eq_false hr]
 refine J15 ?_
 refine J5 ?_
 refine E5 ?_
 have hbad: ¬((0≤z∧z<3)∧okR p0 q0∧0≤o∧o<256):=by first|exact fun k=>hz k.1|exact fun k=>hr k.2.1|(intro k;omega)
 exact Rb rfl rfl ⟨fun _=>⟨rfl,rfl⟩,fun h=>absurd h hbad⟩
 rw[decide_eq_false hz]
 refine J15 ?_
 refine J9 ?_
 refine E5 ?_
 have hbad: ¬((0≤z∧z<3)∧okR p0 q0∧0≤o∧o<256):=by first|exact fun k=>hz k.1|exact fun k=>hr k.2.1|(intro k;omega)
 exact Rb rfl rfl ⟨fun _=>⟨rfl,rfl⟩,fun h=>absurd h hbad⟩
end Go.Proofs.YtkofjhglgoojiaaGreatDoor.Is
