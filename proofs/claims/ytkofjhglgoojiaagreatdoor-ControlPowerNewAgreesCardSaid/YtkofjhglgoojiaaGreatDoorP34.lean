/-
  Joined.
-/
import Derived.Test.YtkofjhglgoojiaaGreatDoorP07
import Derived.Test.YtkofjhglgoojiaaGreatDoorP04
set_option linter.unusedSimpArgs false
set_option linter.unusedVariables false
namespace Go.Proofs.YtkofjhglgoojiaaGreatDoor.Is
set_option maxRecDepth 100000
set_option maxHeartbeats 20000000
open Go.Tk Go.Sv Go.Ios
attribute [local irreducible] KV SV OV Step Code.wp wpList Exit.then Exit.inBlock Blk OS Big Bun
theorem mod_fn (v:Int) (n:Nat) (hn:0<n) (hn2:n≤1000000):FxP Tryz.prog 7 [.int .i64 v,.int .i64 n] (.int .i64 (modM v n)):=by
 refine Fp ?_
 intro wp
 refine J8 ?_
 refine Jr (Step.convI Tryz.underlying3 Tryz.underlying101 rfl (rfl)) ?_
 refine J1 ?_
 refine Jr (Step.convI Tryz.underlying3 Tryz.underlying101 rfl (wU64 (by omega) (by omega))) ?_
 refine Jr (Step.rem rfl rfl (by omega) (rfl)) ?_
 refine Jr (Step.convI Tryz.underlying101 Tryz.underlying3 rfl (wI64 (by have:=modT v hn;omega) (by have:=modT v hn;omega))) ?_
 refine J4 ?_
 exact KV.retP1 rfl rfl (by rw[modM_t v hn])
theorem validSpace_fn (x:Int):FxP Tryz.prog 64 [.int .i64 x] (.bool (decide (0≤x∧x<3))):=by
 refine Fp ?_
 intro wp
 refine J8 ?_
 refine Jge rfl rfl (fun cc1=>?_) (fun cc1=>?_)
 refine J2 ?_
 refine Jlt rfl rfl (fun cc2=>?_) (fun cc2=>?_)
 refine J5 ?_
 exact KV.retP1 rfl rfl (by first|rw[decide_eq_true (show 0≤x∧x<3 by omega)]|rw[decide_eq_false (show ¬(0≤x∧x<3) by omega)])
 refine J5 ?_
 exact KV.retP1 rfl rfl (by first|rw[decide_eq_true (show 0≤x∧x<3 by omega)]|rw[decide_eq_false (show ¬(0≤x∧x<3) by omega)])
 refine J8 ?_
 exact KV.retP1 rfl rfl (by first|rw[decide_eq_true (show 0≤x∧x<3 by omega)]|rw[decide_eq_false (show ¬(0≤x∧x<3) by omega)])
theorem validOwner_fn (x:Int):FxP Tryz.prog 66 [.int .i64 x] (.bool (decide (0≤x∧x<256))):=by
 refine Fp ?_
 intro wp
 refine J8 ?_
 refine Jge rfl rfl (fun cc1=>?_) (fun cc1=>?_)
 refine J2 ?_
 refine Jlt rfl rfl (fun cc2=>?_) (fun cc2=>?_)
 refine J5 ?_
 exact KV.retP1 rfl rfl (by first|rw[decide_eq_true (show 0≤x∧x<256 by omega)]|rw[decide_eq_false (show ¬(0≤x∧x<256) by omega)])
 refine J5 ?_
 exact KV.retP1 rfl rfl (by first|rw[decide_eq_true (show 0≤x∧x<256 by omega)]|rw[decide_eq_false (show ¬(0≤x∧x<256) by omega)])
 refine J8 ?_
 exact KV.retP1 rfl rfl (by first|rw[decide_eq_true (show 0≤x∧x<256 by omega)]|rw[decide_eq_false (show ¬(0≤x∧x<256) by omega)])
theorem last_fn (b l:Int) {w:World}:Fx Tryz.prog 111 [.agg #[.int .u64 b,.int .u64 l]] w [] no (fun v L=>v= .int .u64 (lastW b l)∧L=[]):=by
 refine Fb ?_
 intro I hro hI
 refine J2 ?_
 refine RV.op (Yb #[_,_] rfl rfl (fun b0_0=>?_))
 refine J9 ?_
 refine Jr (Step.sub rfl rfl (rfl)) ?_
 refine Jr (Step.add rfl rfl (rfl)) ?_
 refine J4 ?_
 refine E0 ?_
 exact Rb rfl rfl ⟨rfl,rfl⟩
theorem validRange_fn (b l:Int) (hb:isU b) {w:World}:Fx Tryz.prog 65 [.agg #[.int .u64 b,.int .u64 l]] w [] no (fun v L=>v= .bool (decide (okR b l))∧L=[]):=by
 refine Fb ?_
 intro I hro hI
 refine J2 ?_
 refine RV.op (Yb #[_,_] rfl rfl (fun b0_0=>?_))
 refine J4 ?_
 refine An (Hp I w [Blk b0_0 (.cells #[.int .u64 b,.int .u64 l] 119 (0,0))]) 16 ?_
 refine W 0 ?_
 refine W 1 ?_
 refine W 2 ?_
 refine W 3 ?_
 refine KV.cases 6 rfl (fun cc1=>?_) (fun cc1=>?_)
 have e1:=of_decide_eq_true cc1
 refine W 4 ?_
 refine W 5 ?_
 refine W 6 ?_
 refine W 7 ?_
 refine W 8 ?_
 refine KV.cases 11 rfl (fun cc2=>?_) (fun cc2=>?_)
 have e2:=of_decide_eq_true cc2
 refine W 9 ?_
 refine W 10 ?_
 refine W 11 ?_
 refine V1 12 ?_
 refine Yc [] (F:=[_]) rfl rfl (fun w h=>last_fn b l) (fun v L' hp=>?_)
 obtain⟨rfl,rfl⟩:=hp
 refine Wn ?_
 refine W 13 ?_
 refine W 14 ?_
 refine W 15 ?_
 refine Vd ?_
 refine J2 ?_
 refine E0 ?_
 first|(refine KV.ret1 rfl rfl _ (fun _ h=>h) ⟨?_,rfl⟩;congr 1;exact decide_eq_decide.2 (okR_iff hb (by omega) (by omega)))|(refine KV.ret1 rfl rfl _ (fun _ h=>h) ⟨?_,rfl⟩;rw[decide_eq_false (show ¬okR b l by unfold okR;omega)])
 have e2:=of_decide_eq_false cc2
 refine Wk 9 ?_
 refine Wk 10 ?_
 refine Wk 11 ?_
 refine Wk 12 ?_
 refine Wk 13 ?_
 refine W 14 ?_
 refine W 15 ?_
 refine Vd ?_
 refine J2 ?_
 refine E0 ?_
 first|(refine KV.ret1 rfl rfl _ (fun _ h=>h) ⟨?_,rfl⟩;congr 1;exact decide_eq_decide.2 (okR_iff hb (by omega) (by omega)))|(refine KV.ret1 rfl rfl _ (fun _ h=>h) ⟨?_,rfl⟩;rw[decide_eq_false (show ¬okR b l by unfold okR;omega)])
 have e1:=of_decide_eq_false cc1
 refine Wk 4 ?_
 refine Wk 5 ?_
 refine Wk 6 ?_
 refine W 7 ?_
 refine W 8 ?_
 refine Wk 9 ?_
 refine Wk 10 ?_
 refine Wk 11 ?_
 refine Wk 12 ?_
 refine Wk 13 ?_
 refine W 14 ?_
 refine W 15 ?_
 refine Vd ?_
 refine J2 ?_
 refine E0 ?_
 first|(refine KV.ret1 rfl rfl _ (fun _ h=>h) ⟨?_,rfl⟩;congr 1;exact decide_eq_decide.2 (okR_iff hb (by omega) (by omega)))|(refine KV.ret1 rfl rfl _ (fun _ h=>h) ⟨?_,rfl⟩;rw[decide_eq_false (show ¬okR b l by unfold okR;omega)])
theorem overlap_fn {b l b2 l2:Int} (hb:isU b) (hl:okR b l) (hb2:isU b2) (hl2:okR b2 l2) {w:World}:Fx Tryz.prog 68 [.agg #[.int .u64 b,.int .u64 l],.agg #[.int .u64 b2,.int .u64 l2]] w [] no (fun v L=>v= .bool (decide (ovl b l b2 l2))∧L=[]):=by
 refine Fb ?_
 intro I hro hI
 refine J2 ?_
 refine RV.op (Yb #[_,_] rfl rfl (fun b0_0=>?_))
 refine RV.op (Yb #[_,_] rfl rfl (fun b0_1=>?_))
 refine J4 ?_
 refine An (Hp I w [Blk b0_0 (.cells #[.int .u64 b,.int .u64 l] 119 (0,0)),Blk b0_1 (.cells #[.int .u64 b2,.int .u64 l2] 119 (0,0))]) 13 ?_
 refine W 0 ?_
 refine W 1 ?_
 refine W 2 ?_
 refine V1 3 ?_
 refine Yc [] (F:=[_,_]) rfl rfl (fun w h=>last_fn b2 l2) (fun v L' hp=>?_)
 obtain⟨rfl,rfl⟩:=hp
 refine Wn ?_
 refine W 4 ?_
 refine W 5 ?_
 refine KV.cases 10 rfl (fun cc1=>?_) (fun cc1=>?_)
 have e1:=of_decide_eq_true cc1
 refine W 6 ?_
 refine W 7 ?_
 refine W 8 ?_
 refine V1 9 ?_
 refine Yc [] (F:=[_,_]) rfl rfl (fun w h=>last_fn b l) (fun v L' hp=>?_)
 obtain⟨rfl,rfl⟩:=hp
 refine Wn ?_
 refine W 10 ?_
 refine W 11 ?_
 refine W 12 ?_
 refine Vd ?_
 refine J2 ?_
 refine E0 ?_
 have q1:=lastW_eq hb hl
 have q2:=lastW_eq hb2 hl2
 first|(refine KV.ret1 rfl rfl _ (fun _ h=>h) ⟨?_,rfl⟩;congr 1;exact decide_eq_decide.2 (by unfold ovl;omega))|(refine KV.ret1 rfl rfl _ (fun _ h=>h) ⟨?_,rfl⟩;rw[decide_eq_false (show ¬ovl b l b2 l2 by unfold ovl;omega)])
 have e1:=of_decide_eq_false cc1
 refine Wk 6 ?_
 refine Wk 7 ?_
 refine Wk 8 ?_
 refine Wk 9 ?_
 refine Wk 10 ?_
 refine W 11 ?_
 refine W 12 ?_
 refine Vd ?_
 refine J2 ?_
 refine E0 ?_
 have q1:=lastW_eq hb hl
 have q2:=lastW_eq hb2 hl2
 first|(refine KV.ret1 rfl rfl _ (fun _ h=>h) ⟨?_,rfl⟩;congr 1;exact decide_eq_decide.2 (by unfold ovl;omega))|(refine KV.ret1 rfl rfl _ (fun _ h=>h) ⟨?_,rfl⟩;rw[decide_eq_false (show ¬ovl b l b2 l2 by unfold ovl;omega)])
theorem closure_fn {bl ba:Nat} {x:Int} {q:Sp} {fz1 fz2:Nat×Nat} {w:World} (h1:w.heap[bl]?=some (.cells #[.slice q.A q.hs.length q.c] 102 fz1)) (h2:w.heap[ba]?=some (.cells #[.int .u64 x] 37 fz2)) (hs:SpR w q) (ho:okS q.hs) {j:Nat} (hj:j<q.hs.length):Fx Tryz.prog 113 [.int .i64 j,.pointer (some ⟨bl,0,none⟩),.pointer (some ⟨ba,0,none⟩)] w [] no (fun v L=>v= .bool (decide (x≤(mh q.hs j).lst))∧L=[]):=by
 refine Fb ?_
 intro I hro hI
 refine J6 ?_
 refine An (Hp I w []) 11 ?_
 refine Wt 0 rfl (Tc rfl (fun w h=>(cell_of (h.ro h1 (hI _)) 0).trans rfl)) ?_
 refine W 1 ?_
 refine Wt 2 rfl (Ti (fun w h=>(hs.keep (same_of h hI)).1) rfl rfl (by simp) _ rfl (by simp;omega)) ?_
 refine Wt 3 rfl (Tc rfl (fun w h=>(hs.keep (same_of h hI)).ptr (by omega))) ?_
 refine W 4 ?_
 refine W 5 ?_
 refine Wt 6 rfl (Tw rfl (fun w h=>((hs.keep (same_of h hI)).2 j hj).rng)) ?_
 refine Wt 8 rfl (Tc rfl (fun w h=>(cell_of (h.ro h2 (hI _)) 0).trans rfl)) ?_
 refine V1 7 ?_
 refine Yc [] (F:=[]) rfl rfl (fun w h=>last_fn (mh q.hs j).base (mh q.hs j).len) (fun v L' hp=>?_)
 obtain⟨rfl,rfl⟩:=hp
 refine Wn ?_
 refine W 9 ?_
 refine W 10 ?_
 refine Vd ?_
 refine J2 ?_
 refine E0 ?_
 exact Rb rfl rfl ⟨by rw[lastW_eq (ho.each j hj).b (ho.each j hj).r],rfl⟩
theorem search_fn {bl ba:Nat} {x:Int} {q:Sp} {fz1 fz2:Nat×Nat} {w:World} (h1:w.heap[bl]?=some (.cells #[.slice q.A q.hs.length q.c] 102 fz1)) (h2:w.heap[ba]?=some (.cells #[.int .u64 x] 37 fz2)) (hs:SpR w q) (ho:okS q.hs) (hl:q.hs.length≤1000000):Fx Tryz.prog 112 [.int .i64 q.hs.length,.func (.func 113) #[] #[.pointer (some ⟨bl,0,none⟩),.pointer (some ⟨ba,0,none⟩)]] w [] no (fun v L=>v= .int .i64 (aftM q.hs x)∧L=[]):=by
 refine Fb ?_
 intro I hro hI
 refine J14 ?_
 refine E0 ?_
 refine CV.loop2 (fun(i:Nat) (j:Nat)=>(i≤j∧j≤q.hs.length)∧(∀k,k<i→ ¬x≤(mh q.hs k).lst)∧(∀k,j≤k→k<q.hs.length→x≤(mh q.hs k).lst)) (fun(i:Nat) (j:Nat)=>j-i) (fun(i:Nat) (j:Nat)=>[(1,.func (.func 113) #[] #[.pointer (some ⟨bl,0,none⟩),.pointer (some ⟨ba,0,none⟩)]),(5,.int .i64 i),(6,.int .i64 j)]) (fun(i:Nat) (j:Nat)=>Hp I w []) (0) (q.hs.length) ⟨⟨Nat.zero_le _,Nat.le_refl _⟩,fun k hk=>by omega,fun k h3 h4=>by omega⟩ (sb rfl) (fun _ h=>h) ?_
 intro i j hinv
 refine J5 ?_
 refine Jlt rfl rfl (fun hlt=>?_) (fun hlt=>?_)
 refine J11 ?_
 refine Jr (Step.convI Tryz.underlying3 Tryz.underlying101 rfl (wU64 (by omega) (by omega))) ?_
 refine Jr (Step.shr rfl rfl (by omega) (half i j)) ?_
 refine Jr (Step.convI Tryz.underlying101 Tryz.underlying3 rfl (wI64 (by omega) (by omega))) ?_
 refine J7 ?_
 refine RV.op (OV.callv [] (F:=[]) (caps:=[_,_]) rfl C113.f C113.b C113.n rfl rfl (fun w h=>closure_fn (h.ro h1 (hI _)) (h.ro h2 (hI _)) (hs.keep (same_of h hI)) ho (j:=((i+j)/2)) (by omega)) (fun _ hb=>hb.elim) gno rfl (fun v L' hp=>?_))
 obtain⟨rfl,rfl⟩:=hp
 by_cases hq:x≤(mh q.hs ((i+j)/2)).lst
 rw[decide_eq_true hq]
 refine J10 ?_
 refine E0 ?_
 exact KV.loop2 (x:=i) (y:=j) (i) (((i+j)/2)) ⟨by omega,hinv.2.1,fun k h3 h4=>Int.le_trans hq (ho.mono h3 h4)⟩ (by omega) (sb rfl) (fun _ h=>h)
 rw[decide_eq_false hq]
 refine J11 ?_
 refine E0 ?_
 exact KV.loop2 (x:=i) (y:=j) (((i+j)/2)+1) (j) ⟨by omega,fun k hk hx=>hq (Int.le_trans hx (ho.mono (show k≤((i+j)/2) by omega) (by omega))),hinv.2.2⟩ (by omega) (sb rfl) (fun _ h=>h)
 refine J15 ?_
 refine E0 ?_
 exact Rb rfl rfl ⟨by rw[aft_of (i:=i) (by omega) hinv.2.1 (fun k h3 h4=>hinv.2.2 k (by omega) h4)],rfl⟩
theorem after_fn (b:Nat) (s:BS) {w:World} (hk:s.ok) {m:Nat} (hm:m<3) (x:Int):Fx Tryz.prog 67 [.pointer (some ⟨b,0,none⟩),.int .i64 m,.int .u64 x] w (busL b s) no (fun v L=>v= .int .i64 (aftM (s.sp m).hs x)∧L=busL b s):=by
 refine Fb ?_
 intro I hro hI
 have hw:=hk.wf
 have hw3:=hw.sp
 have hlm:=hk.len hm
 refine J2 ?_
 refine RV.op (Yb #[_] rfl rfl (fun b0_0=>?_))
 refine J7 ?_
 refine Jp rfl ?_
 refine J1 ?_
 refine Jr (Step.idxArr Tryz.underlying103 I102.h rfl rfl _ rfl (by omega)) ?_
 refine Jr (Tc rfl (fun w h=>h.cell 0 rfl (busC_sp hw hm))) ?_
 refine RV.op (Ya (fun b1_6=>?_))
 refine Zw 5 [_] #[_] ?_
 refine J6 ?_
 refine Jr (Step.makeFunc rfl) ?_
 refine RV.op (Yc [] (F:=[_,_,_,_,_,_]) rfl rfl (fun w h=>search_fn (q:=s.sp m) (h.blk 5 rfl) (h.blk 4 rfl) (show SpR w (s.sp m) from Hp.spr h (k:=1) rfl (m:=m) (by omega)) (hk.sp m hm) (by omega)) (fun v L' hp=>?_))
 obtain⟨rfl,rfl⟩:=hp
 refine J4 ?_
 refine E4 ?_
 exact Rb rfl rfl ⟨rfl,rfl⟩
theorem new_fn {w:World}:Fx Tryz.prog 8 [] w [] no (fun v L=> ∃b,v= .pointer (some ⟨b,0,none⟩)∧L=busL b bs0):=by
 refine Fb ?_
 intro I hro hI
 refine J7 ?_
 refine Jr (Step.build rfl (Bd106_)) ?_
 refine RV.op (Yb #[_,_,_,_,_,_,_,_,_,_,_,_,_,_,_,_,_,_,_,_,_,_,_,_,_,_,_,_,_,_,_,_,_,_,_,_,_,_,_,_,_,_,_,_,_,_,_,_,_,_,_,_,_,_,_,_,_,_,_,_,_,_,_,_,_,_,_,_,_,_,_,_,_,_,_,_,_,_,_,_,_,_,_,_,_,_,_,_,_,_,_,_,_,_,_,_,_,_,_,_,_,_,_,_,_,_,_,_,_,_,_,_,_,_,_,_,_,_,_,_,_,_,_,_,_,_,_,_,_,_,_,_,_,_,_,_,_,_,_,_,_,_,_,_,_,_,_,_,_,_,_,_,_,_,_,_,_,_,_,_,_,_,_,_,_,_,_,_,_,_,_,_,_,_,_,_,_,_,_,_,_,_,_,_,_,_,_,_,_,_,_,_,_,_,_,_,_,_,_,_,_,_,_,_,_,_,_,_,_,_,_,_,_,_,_,_,_,_,_,_,_,_,_,_,_,_,_,_,_,_,_,_,_,_,_,_,_,_,_,_,_,_,_,_,_,_,_,_,_,_,_,_,_,_,_,_,_,_,_,_,_,_] rfl rfl (fun b1_1=>?_))
 refine J4 ?_
 exact KV.ret1 rfl rfl _ (fun _ h=>((h.newBig 3 spD spD_emp).nilOS).nilOS) ⟨_,rfl,rfl⟩
theorem enable_fn (b:Nat) (s:BS) {w:World} (hk:s.ok) (o:Int) (v:Bool):Fx Tryz.prog 32 [.pointer (some ⟨b,0,none⟩),.int .i64 o,.bool v] w (busL b s) no (fun r L=>(¬(0≤o∧o<256)→r= .int .i64 1∧L=busL b s)∧(0≤o∧o<256→r= .int .i64 0∧L=busL b {s with en:=s.en.set o.toNat v})):=by
 refine Fb ?_
 intro I hro hI
 have hw:=hk.wf
 have hw3:=hw.sp
 refine J9 ?_
 refine RV.op (Yc [] rfl rfl (fun w h=>(validOwner_fn o).fn w) (fun v L' hp=>?_))
 obtain⟨rfl,rfl⟩:=hp
 by_cases ho:0≤o∧o<256
 rw[decide_eq_true ho]
 obtain⟨m,rfl⟩:=Int.eq_ofNat_of_zero_le ho.1
 refine J11 ?_
 refine Jp rfl ?_
 refine J1 ?_
 refine Jr (Step.idxArr Tryz.underlying55 I4.h rfl rfl _ rfl (by omega)) ?_
 refine RV.op (OV.store 0 [_] (busC {s with en:=s.en.set m v}).toArray I4.h rfl rfl rfl rfl rfl (by show _+1≤(busC _).toArray.size;rw[List.size_toArray,busC_len hw];omega) (by simp[Value.oneCell']) (set_of hw (by omega) (set_en hw (by omega) v)) gno ?_)
 refine J8 ?_
 refine E4 ?_
 exact Rb rfl rfl ⟨fun h=>absurd ho h,fun _=>⟨rfl,rfl⟩⟩
 rw[decide_eq_false ho]
 refine J11 ?_
 refine E4 ?_
 exact Rb rfl rfl ⟨fun _=>⟨rfl,rfl⟩,fun h=>absurd h ho⟩
theorem insert_fn {A B:Option Addr} {n c i:Nat} {p:Option Nat} {ps:List (Option Nat)} {w:World} (hn:n=ps.length) (hi:i≤ps.length) (hl:ps.length≤1000):Fx Tryz.prog 69 [.slice A n c,.int .i64 i,.slice B 1 1] w [OS 211 ptrK A c ps,OS 211 ptrK B 1 [p]] no (fun v L=> ∃A2 c2,v= .slice A2 (ps.length+1) c2∧L=[OS 211 ptrK A2 c2 (insL ps i p)]):=by
 subst hn
 refine Fb ?_
 intro I hro hI
 refine KV.have (fun w h=>h.osCap 0 rfl) (fun hcap=>?_)
 refine J9 ?_
 refine Jr (Step.sliceLo Tryz.underlying102 I211.h rfl rfl (i) (rfl) (by omega)) ?_
 refine J13 ?_
 refine Jeq rfl rfl (fun cc1=>?_) (fun cc1=>?_)
 exfalso;omega
 refine J15 ?_
 refine J2 ?_
 refine Jeq rfl rfl (fun hin=>?_) (fun hin=>?_)
 refine J7 ?_
 refine RV.op (Ye 0 rfl rfl rfl rfl rfl (fun w h=>h.os 1 rfl) (by simp only[List.length_cons,List.length_nil];omega) (fun b7_2a b7_2c=>?_))
 refine J5 ?_
 refine E1 ?_
 exact Rb rfl rfl ⟨_,_,by rw[List.length_append];rfl,by rw[insE (i:=i) p (by omega)]⟩
 refine J12 ?_
 refine Jr (Step.capSl Tryz.underlying102 rfl) ?_
 refine Jgt rfl rfl (fun hgr=>?_) (fun hgr=>?_)
 refine J7 ?_
 refine Jr (Step.sliceHi Tryz.underlying102 I211.h rfl rfl (i) (rfl) (by omega)) ?_
 refine J5 ?_
 refine RV.op (OV.appendZ (K:=ptrK) (zs:=ps.take i) none (ps.length+1-i) Tryz.underlying102 Tryz.underlying3 I211.h rfl rfl rfl (by omega) (by rw[List.length_take];omega) (fun w h=>(h.os 0 rfl).take i) (by omega) (by omega) (by omega) (by omega) (by have:=nextcap_le (n:=i+(ps.length+1-i)) (c:=c) (by omega) (by omega);omega) gno rfl (fun A9 c9 hc9=>?_))
 refine J7 ?_
 refine Jr (Step.sliceLo Tryz.underlying102 I211.h rfl rfl (i) (rfl) (by omega)) ?_
 refine J1 ?_
 refine RV.op (OV.copyX (K:=ptrK) 2 i (zs:=[p]) Tryz.underlying102 I211.h rfl rfl rfl (by first|omega|(simp only[List.length_append,List.length_take,List.length_replicate,List.length_drop,List.length_cons,List.length_nil];omega)) (by omega) (by first|omega|(simp only[List.length_append,List.length_take,List.length_replicate,List.length_drop,List.length_cons,List.length_nil];omega)) (fun w h=>h.os 1 rfl) gno rfl ?_)
 rw[insA p none (by omega)]
 refine J3 ?_
 refine Zt 8 ?_
 refine J4 ?_
 refine Sr (Step.sliceLo Tryz.underlying102 I211.h rfl rfl (i+1) ((by omega)) (by omega)) ?_
 refine J2 ?_
 refine Sr (Step.sliceLo Tryz.underlying102 I211.h rfl rfl (i) (rfl) (by omega)) ?_
 refine SV.nil ?_
 show KV _ (wpList _ _ _ _) _ _
 refine RV.op (OV.copyX (K:=ptrK) 2 (i+1) (zs:=ps.drop i) Tryz.underlying102 I211.h rfl rfl rfl (by first|omega|(simp only[List.length_append,List.length_take,List.length_replicate,List.length_drop,List.length_cons,List.length_nil];omega)) (by omega) (by first|omega|(simp only[List.length_append,List.length_take,List.length_replicate,List.length_drop,List.length_cons,List.length_nil];omega)) (fun w h=>(h.os 0 rfl).drop i (c:=c) hcap.1) gno rfl ?_)
 rw[insB p none (by omega)]
 refine J10 ?_
 refine K1 [2] rfl ?_
 exact Rb rfl rfl ⟨_,_,by rw[show i+(ps.length+1-i)=ps.length+1 by omega],rfl⟩
 refine J11 ?_
 refine Jr (Step.sliceHi Tryz.underlying102 I211.h rfl rfl (ps.length+1) ((by omega)) (by omega)) ?_
 refine J11 ?_
 refine Jr (Step.sliceLo Tryz.underlying102 I211.h rfl rfl (i+1) ((by omega)) (by omega)) ?_
 refine Jr (Step.callX rfl (fun w h=>overlaps_false h 1 0 rfl rfl Tryz.func114 X49a X49b X49c X49d Tryz.underlying102 I211.h (by omega) (by simp) (i+1) _ _ _)) ?_
 refine J5 ?_
 refine Zt 8 ?_
 refine J4 ?_
 refine Sr (Step.sliceLo Tryz.underlying102 I211.h rfl rfl (i+1) ((by omega)) (by omega)) ?_
 refine J2 ?_
 refine Sr (Step.sliceLo Tryz.underlying102 I211.h rfl rfl (i) (rfl) (by omega)) ?_
 refine SV.nil ?_
 show KV _ (wpList _ _ _ _) _ _
 refine RV.op (OV.copyX (K:=ptrK) 0 (i+1) (zs:=ps.drop i) Tryz.underlying102 I211.h rfl rfl rfl (by first|omega|(simp only[List.length_append,List.length_take,List.length_replicate,List.length_drop,List.length_cons,List.length_nil];omega)) (by omega) (by first|omega|(simp only[List.length_append,List.length_take,List.length_replicate,List.length_drop,List.length_cons,List.length_nil];omega)) (fun w h=>(h.os 0 rfl).drop i (c:=c) hcap.1) gno rfl ?_)
 rw[insC (by omega)]
 refine J6 ?_
 refine Jr (Step.sliceLo Tryz.underlying102 I211.h rfl rfl (i) (rfl) (by omega)) ?_
 refine J1 ?_
 refine RV.op (OV.copyX (K:=ptrK) 0 i (zs:=[p]) Tryz.underlying102 I211.h rfl rfl rfl (by first|omega|(simp only[List.length_append,List.length_take,List.length_replicate,List.length_drop,List.length_cons,List.length_nil];omega)) (by omega) (by first|omega|(simp only[List.length_append,List.length_take,List.length_replicate,List.length_drop,List.length_cons,List.length_nil];omega)) (fun w h=>h.os 1 rfl) gno rfl ?_)
 rw[insD p (by omega)]
 refine J10 ?_
 refine E1 ?_
 exact Rb rfl rfl ⟨_,_,rfl,rfl⟩
end Go.Proofs.YtkofjhglgoojiaaGreatDoor.Is
