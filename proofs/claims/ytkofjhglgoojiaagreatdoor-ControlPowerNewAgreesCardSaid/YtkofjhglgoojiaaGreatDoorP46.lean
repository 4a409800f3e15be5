/-
  Joined.
-/
import Derived.Test.YtkofjhglgoojiaaGreatDoorP42
set_option linter.unusedSimpArgs false
set_option linter.unusedVariables false
namespace Go.Proofs.YtkofjhglgoojiaaGreatDoor.Dv
set_option maxRecDepth 100000
set_option maxHeartbeats 20000000
open Go.Tk Go.Sv Go.Drv
attribute [local irreducible] KV SV OV Step Code.wp wpList Exit.then Exit.inBlock Blk OS Big Bun
theorem some_fn (d:DH) {w:World} (hd:DR w d) (hl:d.ss.length≤1000000):Fx Tryz.prog 56 [.agg #[.string (bs d.name),.slice d.sA d.ss.length d.sc,.slice d.tA d.hs.length d.tc]] w [] no (fun v L=> ∃d2:DH,v= .agg #[.string (bs d2.name),.slice d2.sA d2.ss.length d2.sc,.slice d2.tA d2.hs.length d2.tc]∧d2.d=someM d.d∧L=dL d2):=by
 refine Fb ?_
 intro I hro hI
 have hn:=somN_le d.d
 refine J2 ?_
 refine RV.op (Yb #[_,_,_] rfl rfl (fun p=>?_))
 refine RV.op (OV.alloc #[.string (Sv.bs []),.slice none 0 0,.slice none 0 0] I66.h rfl gno rfl (fun r=>?_))
 refine J4 ?_
 refine Jr (Step.build (vs:=[(0,.string (Sv.bs [111,102,102])),(1,.string (Sv.bs [111,110])),(2,.string (Sv.bs [95,120])),(3,.string (Sv.bs [83,116,97,116,101,51])),(4,.string (Sv.bs [105,102])),(5,.string (Sv.bs [111,110,95,49]))]) rfl (Ba186_6 _ _ _ _ _ _)) ?_
 refine RV.op (OV.alloc #[.string (Sv.bs []),.string (Sv.bs []),.string (Sv.bs []),.string (Sv.bs []),.string (Sv.bs []),.string (Sv.bs [])] I186.h rfl gno rfl (fun nm=>?_))
 refine Zw 2 [_,_,_,_,_,_] #[_,_,_,_,_,_] ?_
 refine J4 ?_
 refine Jr (Step.build (vs:=[(0,.string (Sv.bs [115,116,97,114,116])),(1,.string (Sv.bs [105,114,113])),(2,.string (Sv.bs [111,110])),(3,.string (Sv.bs [100,114,105,118,101,114]))]) rfl (Ba42_4 _ _ _ _)) ?_
 refine RV.op (OV.alloc #[.string (Sv.bs []),.string (Sv.bs []),.string (Sv.bs []),.string (Sv.bs [])] I42.h rfl gno rfl (fun ev=>?_))
 refine Zw 3 [_,_,_,_] #[_,_,_,_] ?_
 refine J7 ?_
 refine Jr (Step.rem rfl rfl (by omega) (tmodN _ 6)) ?_
 refine Jr (Step.idxArr Tryz.underlying186 I9.h rfl rfl _ rfl (by omega)) ?_
 refine Jr (Tc rfl (fun w h=>h.cell 2 rfl (strs_get nmL (show d.name.length%6<6 by omega)))) ?_
 refine Jr (Step.build rfl (Bd66_0 _)) ?_
 refine RV.op (OV.alloc #[.string (Sv.bs []),.slice none 0 0,.slice none 0 0] I66.h rfl gno rfl (fun x=>?_))
 refine Zw 4 [_,_,_] #[_,_,_] ?_
 refine J7 ?_
 refine Jr (Step.rem rfl rfl (by omega) (tmodN _ 6)) ?_
 refine Jr (Step.add rfl rfl ((show IntKind.i64.wrap (1+((d.ss.length%6:Nat):Int))=(((somN d.d):Nat):Int) from by rw[wI64 (by omega) (by omega)];show _=((1+d.ss.length%6:Nat):Int);omega))) ?_
 refine J5 ?_
 refine KV.heap (fun w h=>h.nilOS (e:=9) (K:=strK)) ?_
 refine J5 ?_
 refine E6 ?_
 refine CV.loop3 (fun(j:Nat) (sA:Option Addr) (sc:Nat)=>j≤(somN d.d)) (fun(j:Nat) (sA:Option Addr) (sc:Nat)=>(somN d.d)-j) (fun(j:Nat) (sA:Option Addr) (sc:Nat)=>[(1,.pointer (some ⟨p,0,none⟩)),(2,.pointer (some ⟨r,0,none⟩)),(3,.pointer (some ⟨nm,0,none⟩)),(4,.pointer (some ⟨ev,0,none⟩)),(5,.pointer (some ⟨x,0,none⟩)),(6,.int .i64 (somN d.d)),(7,.int .i64 j)]) (fun(j:Nat) (sA:Option Addr) (sc:Nat)=>Hp I w [Blk p (.cells #[.string (bs d.name),.slice d.sA d.ss.length d.sc,.slice d.tA d.hs.length d.tc] 66 (0,0)),Blk r (.cells #[.string (bs []),.slice none 0 0,.slice none 0 0] 66 (0,0)),Blk nm (.cells #[.string (bs [111,102,102]),.string (bs [111,110]),.string (bs [95,120]),.string (bs [83,116,97,116,101,51]),.string (bs [105,102]),.string (bs [111,110,95,49])] 186 (0,0)),Blk ev (.cells #[.string (bs [115,116,97,114,116]),.string (bs [105,114,113]),.string (bs [111,110]),.string (bs [100,114,105,118,101,114])] 42 (0,0)),Blk x (.cells #[.string (bs (nmL.getD (d.name.length%6) [])),.slice sA (nmL.take j).length sc,.slice none 0 0] 66 (0,0)),OS 9 strK sA sc (nmL.take j)]) (0) (none) (0) (Nat.zero_le _) (sb rfl) (fun _ h=>h) ?_
 intro j sA sc hinv
 refine J5 ?_
 refine Jlt rfl rfl (fun hj6=>?_) (fun hj6=>?_)
 refine J7 ?_
 refine An (Hp I w [Blk nm (.cells #[.string (bs [111,102,102]),.string (bs [111,110]),.string (bs [95,120]),.string (bs [83,116,97,116,101,51]),.string (bs [105,102]),.string (bs [111,110,95,49])] 186 (0,0))]) 9 ?_
 refine W 0 ?_
 refine W 2 ?_
 refine Wt 3 rfl (Step.idxArr Tryz.underlying186 I9.h rfl rfl _ rfl (by omega)) ?_
 refine Wt 4 rfl (Tc rfl (fun w h=>h.cell 0 rfl (strs_get nmL (show j<6 by omega)))) ?_
 refine V2 1 5 ?_ ?_
 refine OV.step gno (Tl 4 rfl rfl rfl) rfl ?_
 refine Wn ?_
 refine V1 5 ?_
 refine OV.buildSlice (K:=strK) ([nmL.getD j []]) rfl (Bs63_1_0 _) rfl rfl (by omega) gno rfl (fun b8_5=>?_)
 refine Wn ?_
 refine V1 6 ?_
 refine Ye 5 rfl rfl rfl rfl rfl (fun w h=>h.os 6 rfl) (by simp only[List.length_cons,List.length_nil,List.length_take];omega) (fun A2 c2=>?_)
 refine Wn ?_
 refine W 7 ?_
 refine V1 8 ?_
 refine Yw 4 [_] #[_,_,_] rfl rfl rfl rfl rfl ?_
 refine Wn ?_
 refine Vd ?_
 refine J8 ?_
 refine E6 ?_
 exact KV.loop3 (x:=j) (y:=sA) (z:=sc) (j+1) (A2) (c2) (by omega) (by omega) (sb rfl) (fun _ h=>by rw[take_snoc ([]:Bs) (show j<6 by omega)];exact h)
 refine OV.buildSlice (K:=strK) ([nmL.getD j []]) rfl (Bs63_1_0 _) rfl rfl (by omega) gno rfl (fun b8_5=>?_)
 refine Wn ?_
 refine V1 1 ?_
 refine OV.step gno (Tl 4 rfl rfl rfl) rfl ?_
 refine Wn ?_
 refine V1 6 ?_
 refine Ye 5 rfl rfl rfl rfl rfl (fun w h=>h.os 6 rfl) (by simp only[List.length_cons,List.length_nil,List.length_take];omega) (fun A2 c2=>?_)
 refine Wn ?_
 refine W 7 ?_
 refine V1 8 ?_
 refine Yw 4 [_] #[_,_,_] rfl rfl rfl rfl rfl ?_
 refine Wn ?_
 refine Vd ?_
 refine J8 ?_
 refine E6 ?_
 exact KV.loop3 (x:=j) (y:=sA) (z:=sc) (j+1) (A2) (c2) (by omega) (by omega) (sb rfl) (fun _ h=>by rw[take_snoc ([]:Bs) (show j<6 by omega)];exact h)
 refine J9 ?_
 obtain rfl:j=(somN d.d):=by omega
 refine KV.heap (fun w h=>(h.nilOS (e:=191) (K:=thK)).newBig (F:=opA) 0 thD fun w=>OS.emp w) ?_
 refine J11 ?_
 refine E8 ?_
 refine CV.loop2 (fun(j:Nat) (D:DH)=>(j≤d.hs.length∧j≤20)∧D.hs.length=j∧D.hs.map (·.t)=somF (somN d.d) 0 ((d.hs.map (·.t)).take j)) (fun(j:Nat) (D:DH)=>20-j) (fun(j:Nat) (D:DH)=>[(1,.pointer (some ⟨p,0,none⟩)),(2,.pointer (some ⟨r,0,none⟩)),(4,.pointer (some ⟨ev,0,none⟩)),(5,.pointer (some ⟨x,0,none⟩)),(6,.int .i64 (somN d.d)),(8,.int .i64 (frN (somN d.d) ((d.hs.map (·.t)).take j))),(9,.int .i64 j)]) (fun(j:Nat) (D:DH)=>Hp I w [Blk p (.cells #[.string (bs d.name),.slice d.sA d.ss.length d.sc,.slice d.tA d.hs.length d.tc] 66 (0,0)),Blk r (.cells #[.string (bs []),.slice none 0 0,.slice none 0 0] 66 (0,0)),Blk nm (.cells #[.string (bs [111,102,102]),.string (bs [111,110]),.string (bs [95,120]),.string (bs [83,116,97,116,101,51]),.string (bs [105,102]),.string (bs [111,110,95,49])] 186 (0,0)),Blk ev (.cells #[.string (bs [115,116,97,114,116]),.string (bs [105,114,113]),.string (bs [111,110]),.string (bs [100,114,105,118,101,114])] 42 (0,0)),Blk x (.cells #[.string (bs (nmL.getD (d.name.length%6) [])),.slice sA (nmL.take (somN d.d)).length sc,.slice D.tA D.hs.length D.tc] 66 (0,0)),OS 9 strK sA sc (nmL.take (somN d.d)),OS 191 thK D.tA D.tc D.hs,Big opA D.hs]) (0) (dh0) ⟨⟨Nat.zero_le _,Nat.zero_le _⟩,rfl,rfl⟩ (sb rfl) (fun _ h=>h) ?_
 intro j D hinv
 refine J7 ?_
 refine Jlt rfl rfl (fun hj1=>?_) (fun hj1=>?_)
 refine J2 ?_
 refine Jlt rfl rfl (fun hj2=>?_) (fun hj2=>?_)
 refine J13 ?_
 refine Jr (Ti (fun w h=>(DR.keep h hd hI).t) rfl rfl (rfl) _ rfl (by omega)) ?_
 refine Jr (Tw rfl (fun w h=>((DR.keep h hd hI).t).cells (by omega))) ?_
 refine RV.op (OV.alloc #[.int .i64 0,.string (Sv.bs []),.bool false,.int .u64 0,.int .u64 0,.int .u64 0,.slice none 0 0,.int .i64 0] I191.h rfl gno rfl (fun t=>?_))
 refine Zw 8 [_,_,_,_,_,_,_,_] #[_,_,_,_,_,_,_,_] ?_
 refine J2 ?_
 refine CV.join (α:=Unit) (fun _=>[(1,.pointer (some ⟨p,0,none⟩)),(2,.pointer (some ⟨r,0,none⟩)),(4,.pointer (some ⟨ev,0,none⟩)),(5,.pointer (some ⟨x,0,none⟩)),(6,.int .i64 (somN d.d)),(8,.int .i64 (stF (somN d.d) (frN (somN d.d) ((d.hs.map (·.t)).take j)) (d.hs.getD j thK.d).t)),(9,.int .i64 j),(10,.pointer (some ⟨t,0,none⟩))]) (fun _=>Hp I w [Blk p (.cells #[.string (bs d.name),.slice d.sA d.ss.length d.sc,.slice d.tA d.hs.length d.tc] 66 (0,0)),Blk r (.cells #[.string (bs []),.slice none 0 0,.slice none 0 0] 66 (0,0)),Blk nm (.cells #[.string (bs [111,102,102]),.string (bs [111,110]),.string (bs [95,120]),.string (bs [83,116,97,116,101,51]),.string (bs [105,102]),.string (bs [111,110,95,49])] 186 (0,0)),Blk ev (.cells #[.string (bs [115,116,97,114,116]),.string (bs [105,114,113]),.string (bs [111,110]),.string (bs [100,114,105,118,101,114])] 42 (0,0)),Blk x (.cells #[.string (bs (nmL.getD (d.name.length%6) [])),.slice sA (nmL.take (somN d.d)).length sc,.slice D.tA D.hs.length D.tc] 66 (0,0)),OS 9 strK sA sc (nmL.take (somN d.d)),OS 191 thK D.tA D.tc D.hs,Big opA D.hs,Blk t (.cells #[.int .i64 (d.hs.getD j thK.d).t.frm,.string (bs (d.hs.getD j thK.d).t.ev),.bool (d.hs.getD j thK.d).t.gd.used,.int .u64 (d.hs.getD j thK.d).t.gd.reg,.int .u64 (d.hs.getD j thK.d).t.gd.mask,.int .u64 (d.hs.getD j thK.d).t.gd.val,.slice (d.hs.getD j thK.d).A (d.hs.getD j thK.d).t.ops.length (d.hs.getD j thK.d).c,.int .i64 (d.hs.getD j thK.d).t.to] 191 (0,0))]) ?_ ?_
 refine J5 ?_
 refine Jlt rfl rfl (fun c1=>?_) (fun c1=>?_)
 refine J3 ?_
 refine RV.op (Yp rfl (mod_fn _ 3 (by omega) (by omega)) ?_)
 refine Jeq rfl rfl (fun c2=>?_) (fun c2=>?_)
 refine J10 ?_
 refine E9 ?_
 exact KV.join () ⟨rfl,rfl,rfl,rfl,rfl,(by first|(rw[stF_t c1 c2];rfl)|(rw[stF_f1 c1];rfl)|(rw[stF_f2 c2];rfl)),rfl,rfl,trivial⟩ (fun _ h=>h)
 refine J6 ?_
 refine E9 ?_
 exact KV.join () ⟨rfl,rfl,rfl,rfl,rfl,(by first|(rw[stF_t c1 c2];rfl)|(rw[stF_f1 c1];rfl)|(rw[stF_f2 c2];rfl)),rfl,rfl,trivial⟩ (fun _ h=>h)
 refine J11 ?_
 refine E9 ?_
 exact KV.join () ⟨rfl,rfl,rfl,rfl,rfl,(by first|(rw[stF_t c1 c2];rfl)|(rw[stF_f1 c1];rfl)|(rw[stF_f2 c2];rfl)),rfl,rfl,trivial⟩ (fun _ h=>h)
 intro _
 refine J1 ?_
 refine An (Hp I w [Blk t (.cells #[.int .i64 (d.hs.getD j thK.d).t.frm,.string (bs (d.hs.getD j thK.d).t.ev),.bool (d.hs.getD j thK.d).t.gd.used,.int .u64 (d.hs.getD j thK.d).t.gd.reg,.int .u64 (d.hs.getD j thK.d).t.gd.mask,.int .u64 (d.hs.getD j thK.d).t.gd.val,.slice (d.hs.getD j thK.d).A (d.hs.getD j thK.d).t.ops.length (d.hs.getD j thK.d).c,.int .i64 (d.hs.getD j thK.d).t.to] 191 (0,0)),Blk ev (.cells #[.string (bs [115,116,97,114,116]),.string (bs [105,114,113]),.string (bs [111,110]),.string (bs [100,114,105,118,101,114])] 42 (0,0))]) 14 ?_
 refine W 0 ?_
 refine W 1 ?_
 refine W 2 ?_
 refine W 3 ?_
 refine Wt 4 rfl (Step.rem rfl rfl (by omega) (tmodN _ 4)) ?_
 refine Wt 5 rfl (Step.idxArr Tryz.underlying42 I9.h rfl rfl _ rfl (by omega)) ?_
 refine Wt 6 rfl (Tc rfl (fun w h=>h.cell 1 rfl (strs_get ev4 (show(d.hs.getD j thK.d).t.ev.length%4<4 by omega)))) ?_
 refine W 7 ?_
 refine W 8 ?_
 refine W 9 ?_
 refine V2 10 12 ?_ ?_
 refine Yp rfl (mod_fn (d.hs.getD j thK.d).t.to (somN d.d) (by omega) (by omega)) ?_
 refine Wn ?_
 refine Wt 11 rfl (Step.build rfl (Bd191_0_1_4 _ _ _)) ?_
 refine V1 12 ?_
 refine OV.alloc #[.int .i64 0,.string (Sv.bs []),.bool false,.int .u64 0,.int .u64 0,.int .u64 0,.slice none 0 0,.int .i64 0] I191.h rfl gno rfl (fun y=>?_)
 refine Wn ?_
 refine V1 13 ?_
 refine Yw 9 [_,_,_,_,_,_,_,_] #[_,_,_,_,_,_,_,_] rfl rfl rfl rfl rfl ?_
 refine Wn ?_
 refine Vd ?_
 refine J1 ?_
 refine CV.join (α:=Unit) (fun _=>[(1,.pointer (some ⟨p,0,none⟩)),(2,.pointer (some ⟨r,0,none⟩)),(4,.pointer (some ⟨ev,0,none⟩)),(5,.pointer (some ⟨x,0,none⟩)),(6,.int .i64 (somN d.d)),(8,.int .i64 (stF (somN d.d) (frN (somN d.d) ((d.hs.map (·.t)).take j)) (d.hs.getD j thK.d).t)),(9,.int .i64 j),(10,.pointer (some ⟨t,0,none⟩)),(11,.pointer (some ⟨y,0,none⟩))]) (fun _=>Hp I w [Blk p (.cells #[.string (bs d.name),.slice d.sA d.ss.length d.sc,.slice d.tA d.hs.length d.tc] 66 (0,0)),Blk r (.cells #[.string (bs []),.slice none 0 0,.slice none 0 0] 66 (0,0)),Blk nm (.cells #[.string (bs [111,102,102]),.string (bs [111,110]),.string (bs [95,120]),.string (bs [83,116,97,116,101,51]),.string (bs [105,102]),.string (bs [111,110,95,49])] 186 (0,0)),Blk ev (.cells #[.string (bs [115,116,97,114,116]),.string (bs [105,114,113]),.string (bs [111,110]),.string (bs [100,114,105,118,101,114])] 42 (0,0)),Blk x (.cells #[.string (bs (nmL.getD (d.name.length%6) [])),.slice sA (nmL.take (somN d.d)).length sc,.slice D.tA D.hs.length D.tc] 66 (0,0)),OS 9 strK sA sc (nmL.take (somN d.d)),OS 191 thK D.tA D.tc D.hs,Big opA D.hs,Blk t (.cells #[.int .i64 (d.hs.getD j thK.d).t.frm,.string (bs (d.hs.getD j thK.d).t.ev),.bool (d.hs.getD j thK.d).t.gd.used,.int .u64 (d.hs.getD j thK.d).t.gd.reg,.int .u64 (d.hs.getD j thK.d).t.gd.mask,.int .u64 (d.hs.getD j thK.d).t.gd.val,.slice (d.hs.getD j thK.d).A (d.hs.getD j thK.d).t.ops.length (d.hs.getD j thK.d).c,.int .i64 (d.hs.getD j thK.d).t.to] 191 (0,0)),Blk y (.cells #[.int .i64 (stF (somN d.d) (frN (somN d.d) ((d.hs.map (·.t)).take j)) (d.hs.getD j thK.d).t),.string (bs (ev4.getD ((d.hs.getD j thK.d).t.ev.length%4) [])),.bool (gM (d.hs.getD j thK.d).t.gd).used,.int .u64 (gM (d.hs.getD j thK.d).t.gd).reg,.int .u64 (gM (d.hs.getD j thK.d).t.gd).mask,.int .u64 (gM (d.hs.getD j thK.d).t.gd).val,.slice none 0 0,.int .i64 (modM (d.hs.getD j thK.d).t.to (somN d.d))] 191 (0,0))]) ?_ ?_
 refine J7 ?_
 refine KV.cases 83 rfl (fun cc1=>?_) (fun cc1=>?_)
 have hu:(d.hs.getD j thK.d).t.gd.used=true:=cc1
 refine J8 ?_
 refine Jr (Step.rem rfl rfl (by omega) (rfl)) ?_
 refine J3 ?_
 refine Jr (Step.rem rfl rfl (by omega) (rfl)) ?_
 refine Jr (Step.build rfl (Bd188_0_1_2_3 _ _ _ _)) ?_
 refine J1 ?_
 refine Zw 9 [_,_,_,_] #[_,_,_,_,_,_,_,_] ?_
 refine J2 ?_
 refine E10 ?_
 exact KV.join () (sb rfl) (fun _ h=>by first|(rw[gM_t hu];exact h)|(rw[gM_f hu];exact h))
 have hu:(d.hs.getD j thK.d).t.gd.used=false:=cc1
 refine J3 ?_
 refine E10 ?_
 exact KV.join () (sb rfl) (fun _ h=>by first|(rw[gM_t hu];exact h)|(rw[gM_f hu];exact h))
 intro _
 refine J2 ?_
 refine KV.heap (fun w h=>h.nilOS (e:=193) (K:=roK)) ?_
 refine J5 ?_
 refine E11 ?_
 refine CV.loop3 (fun(k:Nat) (A:Option Addr) (c:Nat)=>k≤(d.hs.getD j thK.d).t.ops.length∧k≤4) (fun(k:Nat) (A:Option Addr) (c:Nat)=>4-k) (fun(k:Nat) (A:Option Addr) (c:Nat)=>[(1,.pointer (some ⟨p,0,none⟩)),(2,.pointer (some ⟨r,0,none⟩)),(4,.pointer (some ⟨ev,0,none⟩)),(5,.pointer (some ⟨x,0,none⟩)),(6,.int .i64 (somN d.d)),(8,.int .i64 (stF (somN d.d) (frN (somN d.d) ((d.hs.map (·.t)).take j)) (d.hs.getD j thK.d).t)),(9,.int .i64 j),(10,.pointer (some ⟨t,0,none⟩)),(11,.pointer (some ⟨y,0,none⟩)),(12,.int .i64 k)]) (fun(k:Nat) (A:Option Addr) (c:Nat)=>Hp I w [Blk p (.cells #[.string (bs d.name),.slice d.sA d.ss.length d.sc,.slice d.tA d.hs.length d.tc] 66 (0,0)),Blk r (.cells #[.string (bs []),.slice none 0 0,.slice none 0 0] 66 (0,0)),Blk nm (.cells #[.string (bs [111,102,102]),.string (bs [111,110]),.string (bs [95,120]),.string (bs [83,116,97,116,101,51]),.string (bs [105,102]),.string (bs [111,110,95,49])] 186 (0,0)),Blk ev (.cells #[.string (bs [115,116,97,114,116]),.string (bs [105,114,113]),.string (bs [111,110]),.string (bs [100,114,105,118,101,114])] 42 (0,0)),Blk x (.cells #[.string (bs (nmL.getD (d.name.length%6) [])),.slice sA (nmL.take (somN d.d)).length sc,.slice D.tA D.hs.length D.tc] 66 (0,0)),OS 9 strK sA sc (nmL.take (somN d.d)),OS 191 thK D.tA D.tc D.hs,Big opA D.hs,Blk t (.cells #[.int .i64 (d.hs.getD j thK.d).t.frm,.string (bs (d.hs.getD j thK.d).t.ev),.bool (d.hs.getD j thK.d).t.gd.used,.int .u64 (d.hs.getD j thK.d).t.gd.reg,.int .u64 (d.hs.getD j thK.d).t.gd.mask,.int .u64 (d.hs.getD j thK.d).t.gd.val,.slice (d.hs.getD j thK.d).A (d.hs.getD j thK.d).t.ops.length (d.hs.getD j thK.d).c,.int .i64 (d.hs.getD j thK.d).t.to] 191 (0,0)),Blk y (.cells #[.int .i64 (stF (somN d.d) (frN (somN d.d) ((d.hs.map (·.t)).take j)) (d.hs.getD j thK.d).t),.string (bs (ev4.getD ((d.hs.getD j thK.d).t.ev.length%4) [])),.bool (gM (d.hs.getD j thK.d).t.gd).used,.int .u64 (gM (d.hs.getD j thK.d).t.gd).reg,.int .u64 (gM (d.hs.getD j thK.d).t.gd).mask,.int .u64 (gM (d.hs.getD j thK.d).t.gd).val,.slice A (((d.hs.getD j thK.d).t.ops.take k).map oM).length c,.int .i64 (modM (d.hs.getD j thK.d).t.to (somN d.d))] 191 (0,0)),OS 193 roK A c (((d.hs.getD j thK.d).t.ops.take k).map oM)]) (0) (none) (0) ⟨Nat.zero_le _,Nat.zero_le _⟩ (sb rfl) (fun _ h=>h) ?_
 intro k A c hk1
 refine J7 ?_
 refine Jlt rfl rfl (fun k1=>?_) (fun k1=>?_)
 refine J2 ?_
 refine Jlt rfl rfl (fun k2=>?_) (fun k2=>?_)
 refine J13 ?_
 refine Jr (Ti (fun w h=>(show RS w roK (d.hs.getD j thK.d).A (d.hs.getD j thK.d).t.ops from(DR.keep h hd hI).o j (by omega))) rfl rfl (rfl) _ rfl (by omega)) ?_
 refine Jr (Tw rfl (fun w h=>(show RS w roK (d.hs.getD j thK.d).A (d.hs.getD j thK.d).t.ops from(DR.keep h hd hI).o j (by omega)).cells (by omega))) ?_
 refine RV.op (Ya (fun o=>?_))
 refine Zw 11 [_,_,_] #[_,_,_] ?_
 refine J2 ?_
 refine CV.join (α:=Unit) (fun _=>[(1,.pointer (some ⟨p,0,none⟩)),(2,.pointer (some ⟨r,0,none⟩)),(4,.pointer (some ⟨ev,0,none⟩)),(5,.pointer (some ⟨x,0,none⟩)),(6,.int .i64 (somN d.d)),(8,.int .i64 (stF (somN d.d) (frN (somN d.d) ((d.hs.map (·.t)).take j)) (d.hs.getD j thK.d).t)),(9,.int .i64 j),(10,.pointer (some ⟨t,0,none⟩)),(11,.pointer (some ⟨y,0,none⟩)),(12,.int .i64 k),(13,.pointer (some ⟨o,0,none⟩))]) (fun _=>Hp I w [Blk p (.cells #[.string (bs d.name),.slice d.sA d.ss.length d.sc,.slice d.tA d.hs.length d.tc] 66 (0,0)),Blk r (.cells #[.string (bs []),.slice none 0 0,.slice none 0 0] 66 (0,0)),Blk nm (.cells #[.string (bs [111,102,102]),.string (bs [111,110]),.string (bs [95,120]),.string (bs [83,116,97,116,101,51]),.string (bs [105,102]),.string (bs [111,110,95,49])] 186 (0,0)),Blk ev (.cells #[.string (bs [115,116,97,114,116]),.string (bs [105,114,113]),.string (bs [111,110]),.string (bs [100,114,105,118,101,114])] 42 (0,0)),Blk x (.cells #[.string (bs (nmL.getD (d.name.length%6) [])),.slice sA (nmL.take (somN d.d)).length sc,.slice D.tA D.hs.length D.tc] 66 (0,0)),OS 9 strK sA sc (nmL.take (somN d.d)),OS 191 thK D.tA D.tc D.hs,Big opA D.hs,Blk t (.cells #[.int .i64 (d.hs.getD j thK.d).t.frm,.string (bs (d.hs.getD j thK.d).t.ev),.bool (d.hs.getD j thK.d).t.gd.used,.int .u64 (d.hs.getD j thK.d).t.gd.reg,.int .u64 (d.hs.getD j thK.d).t.gd.mask,.int .u64 (d.hs.getD j thK.d).t.gd.val,.slice (d.hs.getD j thK.d).A (d.hs.getD j thK.d).t.ops.length (d.hs.getD j thK.d).c,.int .i64 (d.hs.getD j thK.d).t.to] 191 (0,0)),Blk y (.cells #[.int .i64 (stF (somN d.d) (frN (somN d.d) ((d.hs.map (·.t)).take j)) (d.hs.getD j thK.d).t),.string (bs (ev4.getD ((d.hs.getD j thK.d).t.ev.length%4) [])),.bool (gM (d.hs.getD j thK.d).t.gd).used,.int .u64 (gM (d.hs.getD j thK.d).t.gd).reg,.int .u64 (gM (d.hs.getD j thK.d).t.gd).mask,.int .u64 (gM (d.hs.getD j thK.d).t.gd).val,.slice A (((d.hs.getD j thK.d).t.ops.take k).map oM).length c,.int .i64 (modM (d.hs.getD j thK.d).t.to (somN d.d))] 191 (0,0)),OS 193 roK A c (((d.hs.getD j thK.d).t.ops.take k).map oM),Blk o (.cells #[.bool (oM ((d.hs.getD j thK.d).t.ops.getD k roK.d)).wr,.int .u64 (oM ((d.hs.getD j thK.d).t.ops.getD k roK.d)).reg,.int .u64 (oM ((d.hs.getD j thK.d).t.ops.getD k roK.d)).val] 193 (0,0))]) ?_ ?_
 refine J7 ?_
 refine KV.cases 115 rfl (fun cc2=>?_) (fun cc2=>?_)
 have hw:=neg_t cc2
 refine J3 ?_
 refine Zw 11 [_] #[_,_,_] ?_
 refine J2 ?_
 refine E12 ?_
 exact KV.join () (sb rfl) (fun _ h=>by first|(rw[oM_t hw];exact h)|(rw[oM_f hw];exact h))
 have hw:=neg_f cc2
 refine J3 ?_
 refine E12 ?_
 exact KV.join () (sb rfl) (fun _ h=>by first|(rw[oM_t hw];exact h)|(rw[oM_f hw];exact h))
 intro _
 refine J4 ?_
 refine RV.op (OV.buildSlice (K:=roK) ([oM ((d.hs.getD j thK.d).t.ops.getD k roK.d)]) rfl (Bs189_1_0 _ _ _) rfl rfl (by omega) gno rfl (fun b25_3=>?_))
 refine RV.op (Ye 10 rfl rfl rfl rfl rfl (fun w h=>h.os 12 rfl) (by simp only[List.length_cons,List.length_nil,List.length_map,List.length_take];omega) (fun A4 c4=>?_))
 refine J1 ?_
 refine Zw 9 [_] #[_,_,_,_,_,_,_,_] ?_
 refine J9 ?_
 refine E11 ?_
 exact KV.loop3 (x:=k) (y:=A) (z:=c) (k+1) (A4) (c4) ⟨by omega,by omega⟩ (by omega) (sb rfl) (fun _ h=>by rw[take_snoc roK.d (show k<(d.hs.getD j thK.d).t.ops.length by omega),List.map_append];exact h)
 refine J9 ?_
 have hop:(((d.hs.getD j thK.d).t.ops.take k).map oM)=(((d.hs.getD j thK.d).t.ops.take 4).map oM):=by rw[take_min hk1.1 hk1.2 (by omega)]
 rw[hop]
 refine J4 ?_
 refine RV.op (OV.buildSlice (K:=thK) ([(⟨someT (somN d.d) (stF (somN d.d) (frN (somN d.d) ((d.hs.map (·.t)).take j)) (d.hs.getD j thK.d).t) (d.hs.getD j thK.d).t,A,c⟩:TH)]) rfl (Bs64_1_0 _ _ _ _ _ _ _ _) rfl rfl (by omega) gno rfl (fun b26_3=>?_))
 refine RV.op (Ye 6 rfl rfl rfl rfl rfl (fun w h=>h.os 11 rfl) (by simp only[List.length_cons,List.length_nil];omega) (fun A5 c5=>?_))
 refine J1 ?_
 refine Zw 4 [_] #[_,_,_] ?_
 refine K9 [0,0,0,0,0,0,0,0,2] rfl ?_
 refine KV.heap (fun w h=>Hp.bigSnoc8 (⟨someT (somN d.d) (stF (somN d.d) (frN (somN d.d) ((d.hs.map (·.t)).take j)) (d.hs.getD j thK.d).t) (d.hs.getD j thK.d).t,A,c⟩:TH) h rfl) ?_
 refine J9 ?_
 refine E8 ?_
 exact KV.loop2 (x:=j) (y:=D) (j+1) ({D with tA:=A5,tc:=c5,hs:=D.hs++[(⟨someT (somN d.d) (stF (somN d.d) (frN (somN d.d) ((d.hs.map (·.t)).take j)) (d.hs.getD j thK.d).t) (d.hs.getD j thK.d).t,A,c⟩:TH)]}) ⟨⟨by omega,by omega⟩,by show(D.hs++[_]).length=j+1;rw[List.length_append,hinv.2.1];rfl,som_next (by omega) hinv.2.2 rfl⟩ (by omega) ⟨rfl,rfl,rfl,rfl,rfl,(by rw[frN_next (by omega)];rfl),rfl,trivial⟩ (fun _ h=>h)
 refine J12 ?_
 have hop:(((d.hs.getD j thK.d).t.ops.take k).map oM)=(((d.hs.getD j thK.d).t.ops.take 4).map oM):=by rw[take_min hk1.1 hk1.2 (by omega)]
 rw[hop]
 refine J4 ?_
 refine RV.op (OV.buildSlice (K:=thK) ([(⟨someT (somN d.d) (stF (somN d.d) (frN (somN d.d) ((d.hs.map (·.t)).take j)) (d.hs.getD j thK.d).t) (d.hs.getD j thK.d).t,A,c⟩:TH)]) rfl (Bs64_1_0 _ _ _ _ _ _ _ _) rfl rfl (by omega) gno rfl (fun b26_3=>?_))
 refine RV.op (Ye 6 rfl rfl rfl rfl rfl (fun w h=>h.os 11 rfl) (by simp only[List.length_cons,List.length_nil];omega) (fun A5 c5=>?_))
 refine J1 ?_
 refine Zw 4 [_] #[_,_,_] ?_
 refine K9 [0,0,0,0,0,0,0,0,2] rfl ?_
 refine KV.heap (fun w h=>Hp.bigSnoc8 (⟨someT (somN d.d) (stF (somN d.d) (frN (somN d.d) ((d.hs.map (·.t)).take j)) (d.hs.getD j thK.d).t) (d.hs.getD j thK.d).t,A,c⟩:TH) h rfl) ?_
 refine J9 ?_
 refine E8 ?_
 exact KV.loop2 (x:=j) (y:=D) (j+1) ({D with tA:=A5,tc:=c5,hs:=D.hs++[(⟨someT (somN d.d) (stF (somN d.d) (frN (somN d.d) ((d.hs.map (·.t)).take j)) (d.hs.getD j thK.d).t) (d.hs.getD j thK.d).t,A,c⟩:TH)]}) ⟨⟨by omega,by omega⟩,by show(D.hs++[_]).length=j+1;rw[List.length_append,hinv.2.1];rfl,som_next (by omega) hinv.2.2 rfl⟩ (by omega) ⟨rfl,rfl,rfl,rfl,rfl,(by rw[frN_next (by omega)];rfl),rfl,trivial⟩ (fun _ h=>h)
 refine OV.alloc #[.int .i64 0,.string (Sv.bs []),.bool false,.int .u64 0,.int .u64 0,.int .u64 0,.slice none 0 0,.int .i64 0] I191.h rfl gno rfl (fun y=>?_)
 refine Wn ?_
 refine V1 10 ?_
 refine Yp rfl (mod_fn (d.hs.getD j thK.d).t.to (somN d.d) (by omega) (by omega)) ?_
 refine Wn ?_
 refine Wt 11 rfl (Step.build rfl (Bd191_0_1_4 _ _ _)) ?_
 refine V1 13 ?_
 refine Yw 9 [_,_,_,_,_,_,_,_] #[_,_,_,_,_,_,_,_] rfl rfl rfl rfl rfl ?_
 refine Wn ?_
 refine Vd ?_
 refine J1 ?_
 refine CV.join (α:=Unit) (fun _=>[(1,.pointer (some ⟨p,0,none⟩)),(2,.pointer (some ⟨r,0,none⟩)),(4,.pointer (some ⟨ev,0,none⟩)),(5,.pointer (some ⟨x,0,none⟩)),(6,.int .i64 (somN d.d)),(8,.int .i64 (stF (somN d.d) (frN (somN d.d) ((d.hs.map (·.t)).take j)) (d.hs.getD j thK.d).t)),(9,.int .i64 j),(10,.pointer (some ⟨t,0,none⟩)),(11,.pointer (some ⟨y,0,none⟩))]) (fun _=>Hp I w [Blk p (.cells #[.string (bs d.name),.slice d.sA d.ss.length d.sc,.slice d.tA d.hs.length d.tc] 66 (0,0)),Blk r (.cells #[.string (bs []),.slice none 0 0,.slice none 0 0] 66 (0,0)),Blk nm (.cells #[.string (bs [111,102,102]),.string (bs [111,110]),.string (bs [95,120]),.string (bs [83,116,97,116,101,51]),.string (bs [105,102]),.string (bs [111,110,95,49])] 186 (0,0)),Blk ev (.cells #[.string (bs [115,116,97,114,116]),.string (bs [105,114,113]),.string (bs [111,110]),.string (bs [100,114,105,118,101,114])] 42 (0,0)),Blk x (.cells #[.string (bs (nmL.getD (d.name.length%6) [])),.slice sA (nmL.take (somN d.d)).length sc,.slice D.tA D.hs.length D.tc] 66 (0,0)),OS 9 strK sA sc (nmL.take (somN d.d)),OS 191 thK D.tA D.tc D.hs,Big opA D.hs,Blk t (.cells #[.int .i64 (d.hs.getD j thK.d).t.frm,.string (bs (d.hs.getD j thK.d).t.ev),.bool (d.hs.getD j thK.d).t.gd.used,.int .u64 (d.hs.getD j thK.d).t.gd.reg,.int .u64 (d.hs.getD j thK.d).t.gd.mask,.int .u64 (d.hs.getD j thK.d).t.gd.val,.slice (d.hs.getD j thK.d).A (d.hs.getD j thK.d).t.ops.length (d.hs.getD j thK.d).c,.int .i64 (d.hs.getD j thK.d).t.to] 191 (0,0)),Blk y (.cells #[.int .i64 (stF (somN d.d) (frN (somN d.d) ((d.hs.map (·.t)).take j)) (d.hs.getD j thK.d).t),.string (bs (ev4.getD ((d.hs.getD j thK.d).t.ev.length%4) [])),.bool (gM (d.hs.getD j thK.d).t.gd).used,.int .u64 (gM (d.hs.getD j thK.d).t.gd).reg,.int .u64 (gM (d.hs.getD j thK.d).t.gd).mask,.int .u64 (gM (d.hs.getD j thK.d).t.gd).val,.slice none 0 0,.int .i64 (modM (d.hs.getD j thK.d).t.to (somN d.d))] 191 (0,0))]) ?_ ?_
 refine J7 ?_
 refine KV.cases 83 rfl (fun cc3=>?_) (fun cc3=>?_)
 have hu:(d.hs.getD j thK.d).t.gd.used=true:=cc3
 refine J8 ?_
 refine Jr (Step.rem rfl rfl (by omega) (rfl)) ?_
 refine J3 ?_
 refine Jr (Step.rem rfl rfl (by omega) (rfl)) ?_
 refine Jr (Step.build rfl (Bd188_0_1_2_3 _ _ _ _)) ?_
 refine J1 ?_
 refine Zw 9 [_,_,_,_] #[_,_,_,_,_,_,_,_] ?_
 refine J2 ?_
 refine E10 ?_
 exact KV.join () (sb rfl) (fun _ h=>by first|(rw[gM_t hu];exact h)|(rw[gM_f hu];exact h))
 have hu:(d.hs.getD j thK.d).t.gd.used=false:=cc3
 refine J3 ?_
 refine E10 ?_
 exact KV.join () (sb rfl) (fun _ h=>by first|(rw[gM_t hu];exact h)|(rw[gM_f hu];exact h))
 intro _
 refine J2 ?_
 refine KV.heap (fun w h=>h.nilOS (e:=193) (K:=roK)) ?_
 refine J5 ?_
 refine E11 ?_
 refine CV.loop3 (fun(k:Nat) (A:Option Addr) (c:Nat)=>k≤(d.hs.getD j thK.d).t.ops.length∧k≤4) (fun(k:Nat) (A:Option Addr) (c:Nat)=>4-k) (fun(k:Nat) (A:Option Addr) (c:Nat)=>[(1,.pointer (some ⟨p,0,none⟩)),(2,.pointer (some ⟨r,0,none⟩)),(4,.pointer (some ⟨ev,0,none⟩)),(5,.pointer (some ⟨x,0,none⟩)),(6,.int .i64 (somN d.d)),(8,.int .i64 (stF (somN d.d) (frN (somN d.d) ((d.hs.map (·.t)).take j)) (d.hs.getD j thK.d).t)),(9,.int .i64 j),(10,.pointer (some ⟨t,0,none⟩)),(11,.pointer (some ⟨y,0,none⟩)),(12,.int .i64 k)]) (fun(k:Nat) (A:Option Addr) (c:Nat)=>Hp I w [Blk p (.cells #[.string (bs d.name),.slice d.sA d.ss.length d.sc,.slice d.tA d.hs.length d.tc] 66 (0,0)),Blk r (.cells #[.string (bs []),.slice none 0 0,.slice none 0 0] 66 (0,0)),Blk nm (.cells #[.string (bs [111,102,102]),.string (bs [111,110]),.string (bs [95,120]),.string (bs [83,116,97,116,101,51]),.string (bs [105,102]),.string (bs [111,110,95,49])] 186 (0,0)),Blk ev (.cells #[.string (bs [115,116,97,114,116]),.string (bs [105,114,113]),.string (bs [111,110]),.string (bs [100,114,105,118,101,114])] 42 (0,0)),Blk x (.cells #[.string (bs (nmL.getD (d.name.length%6) [])),.slice sA (nmL.take (somN d.d)).length sc,.slice D.tA D.hs.length D.tc] 66 (0,0)),OS 9 strK sA sc (nmL.take (somN d.d)),OS 191 thK D.tA D.tc D.hs,Big opA D.hs,Blk t (.cells #[.int .i64 (d.hs.getD j thK.d).t.frm,.string (bs (d.hs.getD j thK.d).t.ev),.bool (d.hs.getD j thK.d).t.gd.used,.int .u64 (d.hs.getD j thK.d).t.gd.reg,.int .u64 (d.hs.getD j thK.d).t.gd.mask,.int .u64 (d.hs.getD j thK.d).t.gd.val,.slice (d.hs.getD j thK.d).A (d.hs.getD j thK.d).t.ops.length (d.hs.getD j thK.d).c,.int .i64 (d.hs.getD j thK.d).t.to] 191 (0,0)),Blk y (.cells #[.int .i64 (stF (somN d.d) (frN (somN d.d) ((d.hs.map (·.t)).take j)) (d.hs.getD j thK.d).t),.string (bs (ev4.getD ((d.hs.getD j thK.d).t.ev.length%4) [])),.bool (gM (d.hs.getD j thK.d).t.gd).used,.int .u64 (gM (d.hs.getD j thK.d).t.gd).reg,.int .u64 (gM (d.hs.getD j thK.d).t.gd).mask,.int .u64 (gM (d.hs.getD j thK.d).t.gd).val,.slice A (((d.hs.getD j thK.d).t.ops.take k).map oM).length c,.int .i64 (modM (d.hs.getD j thK.d).t.to (somN d.d))] 191 (0,0)),OS 193 roK A c (((d.hs.getD j thK.d).t.ops.take k).map oM)]) (0) (none) (0) ⟨Nat.zero_le _,Nat.zero_le _⟩ (sb rfl) (fun _ h=>h) ?_
 intro k A c hk1
 refine J7 ?_
 refine Jlt rfl rfl (fun k1=>?_) (fun k1=>?_)
 refine J2 ?_
 refine Jlt rfl rfl (fun k2=>?_) (fun k2=>?_)
 refine J13 ?_
 refine Jr (Ti (fun w h=>(show RS w roK (d.hs.getD j thK.d).A (d.hs.getD j thK.d).t.ops from(DR.keep h hd hI).o j (by omega))) rfl rfl (rfl) _ rfl (by omega)) ?_
 refine Jr (Tw rfl (fun w h=>(show RS w roK (d.hs.getD j thK.d).A (d.hs.getD j thK.d).t.ops from(DR.keep h hd hI).o j (by omega)).cells (by omega))) ?_
 refine RV.op (Ya (fun o=>?_))
 refine Zw 11 [_,_,_] #[_,_,_] ?_
 refine J2 ?_
 refine CV.join (α:=Unit) (fun _=>[(1,.pointer (some ⟨p,0,none⟩)),(2,.pointer (some ⟨r,0,none⟩)),(4,.pointer (some ⟨ev,0,none⟩)),(5,.pointer (some ⟨x,0,none⟩)),(6,.int .i64 (somN d.d)),(8,.int .i64 (stF (somN d.d) (frN (somN d.d) ((d.hs.map (·.t)).take j)) (d.hs.getD j thK.d).t)),(9,.int .i64 j),(10,.pointer (some ⟨t,0,none⟩)),(11,.pointer (some ⟨y,0,none⟩)),(12,.int .i64 k),(13,.pointer (some ⟨o,0,none⟩))]) (fun _=>Hp I w [Blk p (.cells #[.string (bs d.name),.slice d.sA d.ss.length d.sc,.slice d.tA d.hs.length d.tc] 66 (0,0)),Blk r (.cells #[.string (bs []),.slice none 0 0,.slice none 0 0] 66 (0,0)),Blk nm (.cells #[.string (bs [111,102,102]),.string (bs [111,110]),.string (bs [95,120]),.string (bs [83,116,97,116,101,51]),.string (bs [105,102]),.string (bs [111,110,95,49])] 186 (0,0)),Blk ev (.cells #[.string (bs [115,116,97,114,116]),.string (bs [105,114,113]),.string (bs [111,110]),.string (bs [100,114,105,118,101,114])] 42 (0,0)),Blk x (.cells #[.string (bs (nmL.getD (d.name.length%6) [])),.slice sA (nmL.take (somN d.d)).length sc,.slice D.tA D.hs.length D.tc] 66 (0,0)),OS 9 strK sA sc (nmL.take (somN d.d)),OS 191 thK D.tA D.tc D.hs,Big opA D.hs,Blk t (.cells #[.int .i64 (d.hs.getD j thK.d).t.frm,.string (bs (d.hs.getD j thK.d).t.ev),.bool (d.hs.getD j thK.d).t.gd.used,.int .u64 (d.hs.getD j thK.d).t.gd.reg,.int .u64 (d.hs.getD j thK.d).t.gd.mask,.int .u64 (d.hs.getD j thK.d).t.gd.val,.slice (d.hs.getD j thK.d).A (d.hs.getD j thK.d).t.ops.length (d.hs.getD j thK.d).c,.int .i64 (d.hs.getD j thK.d).t.to] 191 (0,0)),Blk y (.cells #[.int .i64 (stF (somN d.d) (frN (somN d.d) ((d.hs.map (·.t)).take j)) (d.hs.getD j thK.d).t),.string (bs (ev4.getD ((d.hs.getD j thK.d).t.ev.length%4) [])),.bool (gM (d.hs.getD j thK.d).t.gd).used,.int .u64 (gM (d.hs.getD j thK.d).t.gd).reg,.int .u64 (gM (d.hs.getD j thK.d).t.gd).mask,.int .u64 (gM (d.hs.getD j thK.d).t.gd).val,.slice A (((d.hs.getD j thK.d).t.ops.take k).map oM).length c,.int .i64 (modM (d.hs.getD j thK.d).t.to (somN d.d))] 191 (0,0)),OS 193 roK A c (((d.hs.getD j thK.d).t.ops.take k).map oM),Blk o (.cells #[.bool (oM ((d.hs.getD j thK.d).t.ops.getD k roK.d)).wr,.int .u64 (oM ((d.hs.getD j thK.d).t.ops.getD k roK.d)).reg,.int .u64 (oM ((d.hs.getD j thK.d).t.ops.getD k roK.d)).val] 193 (0,0))]) ?_ ?_
 refine J7 ?_
 refine KV.cases 115 rfl (fun cc4=>?_) (fun cc4=>?_)
 have hw:=neg_t cc4
 refine J3 ?_
 refine Zw 11 [_] #[_,_,_] ?_
 refine J2 ?_
 refine E12 ?_
 exact KV.join () (sb rfl) (fun _ h=>by first|(rw[oM_t hw];exact h)|(rw[oM_f hw];exact h))
 have hw:=neg_f cc4
 refine J3 ?_
 refine E12 ?_
 exact KV.join () (sb rfl) (fun _ h=>by first|(rw[oM_t hw];exact h)|(rw[oM_f hw];exact h))
 intro _
 refine J4 ?_
 refine RV.op (OV.buildSlice (K:=roK) ([oM ((d.hs.getD j thK.d).t.ops.getD k roK.d)]) rfl (Bs189_1_0 _ _ _) rfl rfl (by omega) gno rfl (fun b25_3=>?_))
 refine RV.op (Ye 10 rfl rfl rfl rfl rfl (fun w h=>h.os 12 rfl) (by simp only[List.length_cons,List.length_nil,List.length_map,List.length_take];omega) (fun A4 c4=>?_))
 refine J1 ?_
 refine Zw 9 [_] #[_,_,_,_,_,_,_,_] ?_
 refine J9 ?_
 refine E11 ?_
 exact KV.loop3 (x:=k) (y:=A) (z:=c) (k+1) (A4) (c4) ⟨by omega,by omega⟩ (by omega) (sb rfl) (fun _ h=>by rw[take_snoc roK.d (show k<(d.hs.getD j thK.d).t.ops.length by omega),List.map_append];exact h)
 refine J9 ?_
 have hop:(((d.hs.getD j thK.d).t.ops.take k).map oM)=(((d.hs.getD j thK.d).t.ops.take 4).map oM):=by rw[take_min hk1.1 hk1.2 (by omega)]
 rw[hop]
 refine J4 ?_
 refine RV.op (OV.buildSlice (K:=thK) ([(⟨someT (somN d.d) (stF (somN d.d) (frN (somN d.d) ((d.hs.map (·.t)).take j)) (d.hs.getD j thK.d).t) (d.hs.getD j thK.d).t,A,c⟩:TH)]) rfl (Bs64_1_0 _ _ _ _ _ _ _ _) rfl rfl (by omega) gno rfl (fun b26_3=>?_))
 refine RV.op (Ye 6 rfl rfl rfl rfl rfl (fun w h=>h.os 11 rfl) (by simp only[List.length_cons,List.length_nil];omega) (fun A5 c5=>?_))
 refine J1 ?_
 refine Zw 4 [_] #[_,_,_] ?_
 refine K9 [0,0,0,0,0,0,0,0,2] rfl ?_
 refine KV.heap (fun w h=>Hp.bigSnoc8 (⟨someT (somN d.d) (stF (somN d.d) (frN (somN d.d) ((d.hs.map (·.t)).take j)) (d.hs.getD j thK.d).t) (d.hs.getD j thK.d).t,A,c⟩:TH) h rfl) ?_
 refine J9 ?_
 refine E8 ?_
 exact KV.loop2 (x:=j) (y:=D) (j+1) ({D with tA:=A5,tc:=c5,hs:=D.hs++[(⟨someT (somN d.d) (stF (somN d.d) (frN (somN d.d) ((d.hs.map (·.t)).take j)) (d.hs.getD j thK.d).t) (d.hs.getD j thK.d).t,A,c⟩:TH)]}) ⟨⟨by omega,by omega⟩,by show(D.hs++[_]).length=j+1;rw[List.length_append,hinv.2.1];rfl,som_next (by omega) hinv.2.2 rfl⟩ (by omega) ⟨rfl,rfl,rfl,rfl,rfl,(by rw[frN_next (by omega)];rfl),rfl,trivial⟩ (fun _ h=>h)
 refine J12 ?_
 have hop:(((d.hs.getD j thK.d).t.ops.take k).map oM)=(((d.hs.getD j thK.d).t.ops.take 4).map oM):=by rw[take_min hk1.1 hk1.2 (by omega)]
 rw[hop]
 refine J4 ?_
 refine RV.op (OV.buildSlice (K:=thK) ([(⟨someT (somN d.d) (stF (somN d.d) (frN (somN d.d) ((d.hs.map (·.t)).take j)) (d.hs.getD j thK.d).t) (d.hs.getD j thK.d).t,A,c⟩:TH)]) rfl (Bs64_1_0 _ _ _ _ _ _ _ _) rfl rfl (by omega) gno rfl (fun b26_3=>?_))
 refine RV.op (Ye 6 rfl rfl rfl rfl rfl (fun w h=>h.os 11 rfl) (by simp only[List.length_cons,List.length_nil];omega) (fun A5 c5=>?_))
 refine J1 ?_
 refine Zw 4 [_] #[_,_,_] ?_
 refine K9 [0,0,0,0,0,0,0,0,2] rfl ?_
 refine KV.heap (fun w h=>Hp.bigSnoc8 (⟨someT (somN d.d) (stF (somN d.d) (frN (somN d.d) ((d.hs.map (·.t)).take j)) (d.hs.getD j thK.d).t) (d.hs.getD j thK.d).t,A,c⟩:TH) h rfl) ?_
 refine J9 ?_
 refine E8 ?_
 exact KV.loop2 (x:=j) (y:=D) (j+1) ({D with tA:=A5,tc:=c5,hs:=D.hs++[(⟨someT (somN d.d) (stF (somN d.d) (frN (somN d.d) ((d.hs.map (·.t)).take j)) (d.hs.getD j thK.d).t) (d.hs.getD j thK.d).t,A,c⟩:TH)]}) ⟨⟨by omega,by omega⟩,by show(D.hs++[_]).length=j+1;rw[List.length_append,hinv.2.1];rfl,som_next (by omega) hinv.2.2 rfl⟩ (by omega) ⟨rfl,rfl,rfl,rfl,rfl,(by rw[frN_next (by omega)];rfl),rfl,trivial⟩ (fun _ h=>h)
 refine J12 ?_
 refine Zw 1 [_,_,_] #[_,_,_] ?_
 refine J3 ?_
 refine K4 [1,4,4,4] rfl ?_
 exact KV.retC1 [_,_,_] rfl rfl Tryz.underlying66 rfl I66.h rfl (fun w h=>h.cells 0 rfl) _ (fun _ h=>h.sel [1,1,1] rfl) ⟨⟨(nmL.getD (d.name.length%6) []),sA,sc,nmL.take (somN d.d),D.tA,D.tc,D.hs⟩,rfl,by show(⟨(nmL.getD (d.name.length%6) []),nmL.take (somN d.d),D.hs.map (·.t)⟩:Dv)=⟨(nmL.getD (d.name.length%6) []),nmL.take (somN d.d),somF (somN d.d) 0 ((d.hs.map (·.t)).take 20)⟩;rw[hinv.2.2,take_min (l:=(d.hs.map (·.t))) (n:=20) (by rw[List.length_map];omega) (by omega) (by rw[List.length_map];omega)],rfl⟩
 refine J15 ?_
 refine Zw 1 [_,_,_] #[_,_,_] ?_
 refine J3 ?_
 refine K4 [1,4,4,4] rfl ?_
 exact KV.retC1 [_,_,_] rfl rfl Tryz.underlying66 rfl I66.h rfl (fun w h=>h.cells 0 rfl) _ (fun _ h=>h.sel [1,1,1] rfl) ⟨⟨(nmL.getD (d.name.length%6) []),sA,sc,nmL.take (somN d.d),D.tA,D.tc,D.hs⟩,rfl,by show(⟨(nmL.getD (d.name.length%6) []),nmL.take (somN d.d),D.hs.map (·.t)⟩:Dv)=⟨(nmL.getD (d.name.length%6) []),nmL.take (somN d.d),somF (somN d.d) 0 ((d.hs.map (·.t)).take 20)⟩;rw[hinv.2.2,take_min (l:=(d.hs.map (·.t))) (n:=20) (by rw[List.length_map];omega) (by omega) (by rw[List.length_map];omega)],rfl⟩
end Go.Proofs.YtkofjhglgoojiaaGreatDoor.Dv
