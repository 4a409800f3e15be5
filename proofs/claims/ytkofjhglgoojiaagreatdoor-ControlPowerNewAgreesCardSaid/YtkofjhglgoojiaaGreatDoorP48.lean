/-
  Joined.
-/
import Derived.Test.YtkofjhglgoojiaaGreatDoorP45
import Derived.Test.YtkofjhglgoojiaaGreatDoorP46
import Derived.Test.YtkofjhglgoojiaaGreatDoorP47
set_option linter.unusedSimpArgs false
set_option linter.unusedVariables false
namespace Go.Proofs.YtkofjhglgoojiaaGreatDoor.Pw
set_option maxRecDepth 100000
set_option maxHeartbeats 20000000
open Go.Tk Go.Sv Go.Rails Go.Dg Go.Pw
attribute [local irreducible] KV SV OV Step Code.wp wpList Exit.then Exit.inBlock Blk OS Big Bun
theorem text_fn (d:Go.Drv.DH) {w:World} (hd:Go.Drv.DR w d) (hl:d.ss.length≤1000000) (hrg:Go.Drv.rgD d.d):Fx Tryz.prog 27 [.agg #[.string (bs d.name),.slice d.sA d.ss.length d.sc,.slice d.tA d.hs.length d.tc]] w [] no (fun v L=>v= .string (bs (txtM d.d))∧L=[]):=by
 refine Fb ?_
 intro I hro hI
 refine J2 ?_
 refine RV.op (Yb #[_,_,_] rfl rfl (fun b0_0=>?_))
 refine E1 ?_
 refine Jr (Step.assign (v:= .string (Sv.bs [])) rfl) ?_
 refine J5 ?_
 refine RV.op (Yc [] (F:=[_]) rfl rfl (fun w h=>Dv.some_fn d (hd.keep h hI) hl) (fun v L' hp=>?_))
 obtain⟨d2,rfl,hd2,rfl⟩:=hp
 unfold Go.Drv.dL
 refine E4 ?_
 refine RV.op (OV.alloc #[.string (Sv.bs []),.slice none 0 0,.slice none 0 0] I66.h rfl gno rfl (fun b1_2=>?_))
 refine E5 ?_
 refine Zw 4 [_,_,_] #[_,_,_] ?_
 refine E5 ?_
 refine J4 ?_
 refine Jr (Step.build (vs:=[(0,.string (Sv.bs [115,116,97,114,116])),(1,.string (Sv.bs [115,116,111,112])),(2,.string (Sv.bs [115,117,115,112,101,110,100])),(3,.string (Sv.bs [114,101,115,117,109,101])),(4,.string (Sv.bs [105,114,113])),(5,.string (Sv.bs [112,111,108,108]))]) rfl (Ba186_6 _ _ _ _ _ _)) ?_
 refine RV.op (OV.alloc #[.string (Sv.bs []),.string (Sv.bs []),.string (Sv.bs []),.string (Sv.bs []),.string (Sv.bs []),.string (Sv.bs [])] I186.h rfl gno rfl (fun b2_1=>?_))
 refine E6 ?_
 refine Zw 5 [_,_,_,_,_,_] #[_,_,_,_,_,_] ?_
 refine E6 ?_
 refine J4 ?_
 have hsv:=Go.Drv.some_chk d.d
 rw[←hd2] at hsv
 have hbn:=Dv.chk_bnd hsv
 have hok2:=(Go.Drv.chkD_iff d2).1 (Dv.chk_zero hsv)
 have hrg2:Go.Drv.rgD d2.d:=by rw[hd2];exact Go.Drv.some_rg hrg
 refine J5 ?_
 refine K5 [1,1,2,2,1] rfl ?_
 refine CV.loop2 (fun(i:Nat) (gs:List Go.Drv.TH)=>i≤d2.hs.length∧ReI d2.hs gs i) (fun(i:Nat) (gs:List Go.Drv.TH)=>d2.hs.length-i) (fun(i:Nat) (gs:List Go.Drv.TH)=>[(3,.pointer (some ⟨b1_2,0,none⟩)),(4,.pointer (some ⟨b2_1,0,none⟩)),(5,.int .i64 i)]) (fun(i:Nat) (gs:List Go.Drv.TH)=>Hp I w [OS 9 strK d2.sA d2.sc d2.ss,OS 191 Go.Drv.thK d2.tA d2.tc gs,Blk b1_2 (.cells #[.string (bs d2.name),.slice d2.sA d2.ss.length d2.sc,.slice d2.tA d2.hs.length d2.tc] 66 (0,0)),Blk b2_1 (.cells #[.string (bs [115,116,97,114,116]),.string (bs [115,116,111,112]),.string (bs [115,117,115,112,101,110,100]),.string (bs [114,101,115,117,109,101]),.string (bs [105,114,113]),.string (bs [112,111,108,108])] 186 (0,0)),Big Go.Drv.opA gs]) (0) (d2.hs) ⟨Nat.zero_le _,ReI.base _⟩ (sb rfl) (fun _ h=>h) ?_
 intro i gs hinv
 have hgl:gs.length=d2.hs.length:=hinv.2.1
 refine J7 ?_
 refine Jlt rfl rfl (fun cc1=>?_) (fun cc1=>?_)
 refine J8 ?_
 have hi9:i<d2.hs.length:=by omega
 have hgi:(gs.getD i Go.Drv.thK.d)=d2.hs.getD i Go.Drv.thD:=(hinv.2.2 i hi9).2 (by omega)
 have htk:=(Go.Drv.okT_iff _ _).1 (hok2.2.2.2.1 i hi9)
 have hrt:=hrg2 _ (mem_t hi9)
 have hev:=Go.Drv.nm_len htk.2.2.1
 rw[show Go.Drv.th d2.hs i=(gs.getD i Go.Drv.thK.d) from hgi.symm] at htk hev
 rw[←hgi] at hrt
 have hrg9:=hrt.1.1
 unfold Go.Drv.u64 at hrg9
 refine J6 ?_
 refine RV.op (OV.alloc #[.int .i64 0,.string (Sv.bs []),.bool false,.int .u64 0,.int .u64 0,.int .u64 0,.slice none 0 0,.int .i64 0] I191.h rfl gno rfl (fun b6_5=>?_))
 refine E6 ?_
 refine Zw 5 [_,_,_,_,_,_,_,_] #[_,_,_,_,_,_,_,_] ?_
 refine E6 ?_
 refine J12 ?_
 refine Jr (Step.rem rfl rfl (by omega) (Int.tmod_eq_emod_of_nonneg (by omega))) ?_
 refine Jr (Step.idxArr Tryz.underlying186 I9.h rfl rfl _ (Int.toNat_of_nonneg (show 0≤((((gs.getD i Go.Drv.thK.d).t.ev.length:Int)+i+(gs.getD i Go.Drv.thK.d).t.to)%6) by omega)).symm (by omega)) ?_
 refine Jr (Tc rfl (fun w h=>h.cell 3 rfl (evAt (by omega)))) ?_
 refine J1 ?_
 refine Zw 5 [_] #[_,_,_,_,_,_,_,_] ?_
 refine E6 ?_
 refine J7 ?_
 refine Jr (Step.rem rfl rfl (by omega) (Int.tmod_eq_emod_of_nonneg (by omega))) ?_
 refine J3 ?_
 refine Zw 5 [_] #[_,_,_,_,_,_,_,_] ?_
 refine E6 ?_
 refine J4 ?_
 refine K6 [0,0,0,0,1,0] rfl ?_
 refine KV.heap (fun w h=>opOpen (gs:=gs) (i:=i) (X:=[_,_,_,_,_]) h (by omega)) ?_
 refine J5 ?_
 refine K7 [0,0,0,0,2,0,0] rfl ?_
 refine CV.loop2 (fun(k:Nat) (ys:List Go.Drv.Ro)=>k≤(gs.getD i Go.Drv.thK.d).t.ops.length∧RoI (gs.getD i Go.Drv.thK.d).t.ops ys k) (fun(k:Nat) (ys:List Go.Drv.Ro)=>(gs.getD i Go.Drv.thK.d).t.ops.length-k) (fun(k:Nat) (ys:List Go.Drv.Ro)=>[(3,.pointer (some ⟨b1_2,0,none⟩)),(4,.pointer (some ⟨b2_1,0,none⟩)),(5,.int .i64 i),(6,.pointer (some ⟨b6_5,0,none⟩)),(7,.int .i64 k)]) (fun(k:Nat) (ys:List Go.Drv.Ro)=>Hp I w [OS 9 strK d2.sA d2.sc d2.ss,OS 191 Go.Drv.thK d2.tA d2.tc gs,Blk b1_2 (.cells #[.string (bs d2.name),.slice d2.sA d2.ss.length d2.sc,.slice d2.tA d2.hs.length d2.tc] 66 (0,0)),Blk b2_1 (.cells #[.string (bs [115,116,97,114,116]),.string (bs [115,116,111,112]),.string (bs [115,117,115,112,101,110,100]),.string (bs [114,101,115,117,109,101]),.string (bs [105,114,113]),.string (bs [112,111,108,108])] 186 (0,0)),Big Go.Drv.opA (gs.eraseIdx i),Blk b6_5 (.cells #[.int .i64 (gs.getD i Go.Drv.thK.d).t.frm,.string (bs (evL.getD (((((gs.getD i Go.Drv.thK.d).t.ev.length:Int)+i+(gs.getD i Go.Drv.thK.d).t.to)%6).toNat) [])),.bool (gs.getD i Go.Drv.thK.d).t.gd.used,.int .u64 ((gs.getD i Go.Drv.thK.d).t.gd.reg%64* 4),.int .u64 (gs.getD i Go.Drv.thK.d).t.gd.mask,.int .u64 (gs.getD i Go.Drv.thK.d).t.gd.val,.slice (gs.getD i Go.Drv.thK.d).A (gs.getD i Go.Drv.thK.d).t.ops.length (gs.getD i Go.Drv.thK.d).c,.int .i64 (gs.getD i Go.Drv.thK.d).t.to] 191 (0,0)),OS 193 Go.Drv.roK (gs.getD i Go.Drv.thK.d).A (gs.getD i Go.Drv.thK.d).c ys]) (0) ((gs.getD i Go.Drv.thK.d).t.ops) ⟨Nat.zero_le _,RoI.base _⟩ (sb rfl) (fun _ h=>h) ?_
 intro k ys hinv2
 have hyl0:=hinv2.2.1
 refine J7 ?_
 refine Jlt rfl rfl (fun cc2=>?_) (fun cc2=>?_)
 refine J7 ?_
 have hro9:Go.Drv.u64 (ys.getD k Go.Drv.roK.d).reg:=ro_u64 hrt hinv2.2 (by omega)
 unfold Go.Drv.u64 at hro9
 refine An (Hp I w [Blk b6_5 (.cells #[.int .i64 (gs.getD i Go.Drv.thK.d).t.frm,.string (bs (evL.getD (((((gs.getD i Go.Drv.thK.d).t.ev.length:Int)+i+(gs.getD i Go.Drv.thK.d).t.to)%6).toNat) [])),.bool (gs.getD i Go.Drv.thK.d).t.gd.used,.int .u64 ((gs.getD i Go.Drv.thK.d).t.gd.reg%64* 4),.int .u64 (gs.getD i Go.Drv.thK.d).t.gd.mask,.int .u64 (gs.getD i Go.Drv.thK.d).t.gd.val,.slice (gs.getD i Go.Drv.thK.d).A (gs.getD i Go.Drv.thK.d).t.ops.length (gs.getD i Go.Drv.thK.d).c,.int .i64 (gs.getD i Go.Drv.thK.d).t.to] 191 (0,0))]) 14 ?_
 refine W 0 ?_
 refine W 1 ?_
 refine W 2 ?_
 refine W 3 ?_
 refine W 4 ?_
 refine W 5 ?_
 refine V1 6 ?_
 refine OV.step gno (Ti (fun w h=>h.os 6 rfl) rfl rfl (by first|rfl|omega) _ rfl (by omega)) rfl ?_
 refine Wn ?_
 refine W 7 ?_
 refine V1 8 ?_
 refine OV.step gno (Tc rfl (fun w h=>RS.cellAt (h.os 6 rfl) k 1 (by omega) rfl rfl)) rfl ?_
 refine Wn ?_
 refine Wt 9 rfl (Step.rem rfl rfl (by omega) (Int.tmod_eq_emod_of_nonneg (by omega))) ?_
 refine W 10 ?_
 refine V1 11 ?_
 refine OV.step gno (Ti (fun w h=>h.os 6 rfl) rfl rfl (by first|rfl|omega) _ rfl (by omega)) rfl ?_
 refine Wn ?_
 refine W 12 ?_
 refine V1 13 ?_
 refine Yx 6 (k) (reO (ys.getD k Go.Drv.roK.d)) (j:=1) [_] rfl rfl rfl rfl rfl (by omega) rfl ?_
 refine E7 ?_
 refine Wn ?_
 refine Vd ?_
 refine J8 ?_
 refine E7 ?_
 exact KV.loop2 (x:=k) (y:=ys) (k+1) (ys.set k (reO (ys.getD k Go.Drv.roK.d))) ⟨by omega,hinv2.2.step (by omega)⟩ (by omega) (sb rfl) (fun _ h=>h)
 refine J8 ?_
 obtain rfl:k=(gs.getD i Go.Drv.thK.d).t.ops.length:=by omega
 have hys:=hinv2.2.done
 have hyl:(gs.getD i Go.Drv.thK.d).t.ops.length=ys.length:=by rw[hys,List.length_map]
 refine J6 ?_
 refine RV.op (OV.storeE 1 (i) (reH i (gs.getD i Go.Drv.thK.d) ys) (j:=0) [_,_,_,_,_,_,_,_] I191.h rfl rfl rfl rfl rfl rfl (by omega) (by rw[hyl];rfl) (Nat.le_of_ble_eq_true rfl) gno ?_)
 refine E7 ?_
 refine K6 [0,0,0,0,2,0] rfl ?_
 refine KV.heap (fun w h=>opClose (gs:=gs) (i:=i) (X:=[_,_,_,_]) (reH i (gs.getD i Go.Drv.thK.d) ys) h (by omega)) ?_
 refine J9 ?_
 refine E5 ?_
 exact KV.loop2 (x:=i) (y:=gs) (i+1) (gs.set i (reH i (gs.getD i Go.Drv.thK.d) ys)) ⟨by omega,hinv.2.step hi9 hys⟩ (by omega) (sb rfl) (fun _ h=>h)
 refine J9 ?_
 obtain rfl:i=d2.hs.length:=by omega
 have hD:(⟨d2.name,d2.sA,d2.sc,d2.ss,d2.tA,d2.tc,gs⟩:Go.Drv.DH).d=reM (Go.Drv.someM d.d):=by rw[←hd2];show(⟨d2.name,d2.ss,gs.map (·.t)⟩:Go.Drv.Dv)=_;rw[hinv.2.done];rfl
 rw[←hgl]
 refine J2 ?_
 refine RV.op (Yc [] (F:=[_,_,_,_,_]) rfl rfl (fun w h=>Dv.rformat_fn ⟨d2.name,d2.sA,d2.sc,d2.ss,d2.tA,d2.tc,gs⟩ (Dv.DR.ofHp (k1:=0) (k2:=1) (k3:=4) h rfl rfl rfl rfl) (by rw[hD];exact re_rg (Go.Drv.some_rg hrg))) (fun v L' hp=>?_))
 obtain⟨rfl,rfl⟩:=hp
 refine E5 ?_
 refine J14 ?_
 refine E0 ?_
 exact Rb rfl rfl ⟨by rw[hD];rfl,rfl⟩
end Go.Proofs.YtkofjhglgoojiaaGreatDoor.Pw
