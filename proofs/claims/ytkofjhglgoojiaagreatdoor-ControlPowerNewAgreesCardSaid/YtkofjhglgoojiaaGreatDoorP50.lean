/-
  Joined.
-/
import Derived.Test.YtkofjhglgoojiaaGreatDoorP49
set_option linter.unusedSimpArgs false
set_option linter.unusedVariables false
namespace Go.Proofs.YtkofjhglgoojiaaGreatDoor.Pw
set_option maxRecDepth 100000
set_option maxHeartbeats 20000000
open Go.Tk Go.Sv Go.Rails Go.Dg Go.Pw
attribute [local irreducible] KV SV OV Step Code.wp wpList Exit.then Exit.inBlock Blk OS Big Bun
theorem reg_idx {k:Nat} (hk:k<4) (w:World):(Instr.index 42 (.agg [.string (bs [50,53,50]),.string (bs [50,53,52]),.string (bs [50,53,54]),.string (bs [52])].toArray) (.int .i64 (k:Int))).run Tryz.prog w= .ok (.string (bs (regL.getD k []))) w:=by
 obtain rfl|rfl|rfl|rfl:k=0∨k=1∨k=2∨k=3:=by omega
 all_goals kernel_rfl
theorem idx2 (v0 v1:HV) {j:Nat} (hj:j<2) (w:World):(Instr.index 43 (.agg #[.slice v0.A v0.n v0.c,.slice v0.B v0.m v0.d,.slice v0.C v0.q v0.e,.slice v1.A v1.n v1.c,.slice v1.B v1.m v1.d,.slice v1.C v1.q v1.e]) (.int .i64 (j:Int))).run Tryz.prog w= .ok (.agg #[.slice (hvN v0 v1 j).A (hvN v0 v1 j).n (hvN v0 v1 j).c,.slice (hvN v0 v1 j).B (hvN v0 v1 j).m (hvN v0 v1 j).d,.slice (hvN v0 v1 j).C (hvN v0 v1 j).q (hvN v0 v1 j).e]) w:=by
 obtain rfl|rfl:j=0∨j=1:=by omega
 all_goals kernel_rfl
theorem Bd59z (w:World):(Instr.build 59 [].toArray).run Tryz.prog w= .ok (.agg (Ios.rbC Ios.rb0).toArray) w:=by kernel_rfl
theorem newAgrees_fn {A B C D:Option Addr} {n ac m bc q cc p dc:Nat} {raw:List BDv} {drs:List Go.Drv.DH} {rails:List Rail} {bases:List Int} {w:World} (hr:RS w bdK A raw) (hn:n=raw.length) (hl:raw.length≤9223372036854775807) (hb: ∀i,i<raw.length→(raw.getD i bdK.d).pw.rs w∧RS w (intK .i64) (raw.getD i bdK.d).il.sup.A (raw.getD i bdK.d).il.sup.ys∧0≤(raw.getD i bdK.d).il.dly) (hr2:RS w dhK B drs) (hm:m=drs.length) (hl2:drs.length≤9223372036854775807) (hdr: ∀i,i<drs.length→Go.Drv.DR w (drs.getD i dhK.d)∧Go.Drv.rgD (drs.getD i dhK.d).d) (hr3:RS w railK C rails) (hq:q=rails.length) (hr4:RS w (intK .u64) D bases) (hp:p=bases.length) (hu: ∀i,i<bases.length→Ios.isU (bases.getD i (intK .u64).d)) (hE:Dv.EvR w) (arr kk how:Int):Fx Tryz.prog 3 [.slice A n ac,.slice B m bc,.slice C q cc,.int .i64 arr,.slice D p dc,.int .i64 kk,.int .u8 how] w [] Dv.at4 (fun v L=>v= .bool true∧L=[]):=by
 subst hn
 subst hm
 subst hq
 subst hp
 refine Fb ?_
 intro I hro hI
 refine J11 ?_
 refine RV.op (Yc [] (F:=[]) rfl rfl (fun w h=>wide_fn (h.rs hr (fun _=>hI _)) rfl (h.rs hr2 (fun _=>hI _)) rfl hl hl2) (fun v L' hp=>?_))
 obtain⟨bw,rfl,hfew,rfl⟩:=hp
 simp only[List.append_nil]
 cases bw
 have hfw:=hfew rfl
 refine J3 ?_
 refine Jgt rfl rfl (fun hbl10=>?_) (fun hbl10=>?_)
 refine J6 ?_
 refine RV.op (Yc [] (F:=[]) rfl rfl (fun w h=>awake_fn) (fun v L' hp=>?_))
 obtain⟨rfl,rfl⟩:=hp
 refine J5 ?_
 refine E0 ?_
 exact Rb rfl rfl ⟨rfl,rfl⟩
 refine J12 ?_
 refine RV.op (Yc [] (F:=[]) rfl rfl (fun w h=>devices_fn (h.rs hr (fun _=>hI _)) rfl (by have:=hfw.1;omega) (fun i hi=>few_inn (hfw.2.1 i hi) (fun k hk=>h.rs ((hb i hi).1 k hk) (fun _=>hI _)) (h.rs (hb i hi).2.1 (fun _=>hI _))) (fun i hi=>(hb i hi).2.2) (h.rs hr2 (fun _=>hI _)) rfl (fun i hi=>⟨(hdr i hi).1.keep h hI,by have:=(hfw.2.2 i hi).2;omega,(hdr i hi).2⟩) (h.rs hr3 (fun _=>hI _)) rfl (by have:=Rails.some_len rails;omega) arr) (fun v L' hp=>?_))
 obtain⟨z,rA,rc,rfl,rfl,hz0,hz1⟩:=hp
 have hz:HwOk z:=HwOk.gen hz0.1 hz0.2.2 (fun i hi=>(hdr i hi).2) hz1
 refine E4 ?_
 refine RV.op (Ya (fun b3_5=>?_))
 refine E5 ?_
 refine Zw 4 [_,_,_] #[_,_,_] ?_
 refine E5 ?_
 refine J2 ?_
 refine CV.join (fun(y:{y:LZ//HwOk y.z∧y.dr≤1})=>[(0,.slice A raw.length ac),(2,.slice C rails.length cc),(4,.slice D bases.length dc),(15,.pointer (some ⟨b3_5,0,none⟩))]) (fun(y:{y:LZ//HwOk y.z∧y.dr≤1})=>Hp I w [OS 41 bdK y.1.z.dA y.1.z.dc y.1.z.ds,Big hwF y.1.z.ds,OS 183 railK rA rc (someM rails),OS 37 (intK .u64) y.1.z.bA y.1.z.bc y.1.z.bs,Blk b3_5 (.cells #[.slice y.1.z.dA y.1.z.ds.length y.1.z.dc,.slice rA (someM rails).length rc,.slice (sliA y.1.z y.1.dr) (y.1.z.bs.length-y.1.dr) (y.1.z.bc-y.1.dr)] 29 (0,0))]) ?_ ?_
 refine J11 ?_
 refine Jgt rfl rfl (fun hn0=>?_) (fun hn0=>?_)
 refine J4 ?_
 obtain⟨i,hi⟩:=Int.eq_ofNat_of_zero_le (modM_lt kk (n:=z.ds.length) (by omega)).1
 have hi9:i<z.ds.length:=by have:=(modM_lt kk (n:=z.ds.length) (by omega)).2;omega
 have hbl:=hz0.2.2
 refine J3 ?_
 refine RV.op (Yp rfl (Rl.mod_fn kk z.ds.length (by omega) (by omega)) ?_)
 refine E5 ?_
 rw[hi]
 refine J10 ?_
 refine RV.op (OV.alloc #[.int .i64 0,.int .i64 0,.slice none 0 0,.slice none 0 0,.slice none 0 0,.slice none 0 0,.int .i64 0,.int .i64 0,.int .i64 0,.int .i64 0,.int .i64 0,.int .i64 0,.int .i64 0,.int .i64 0,.int .i64 0,.slice none 0 0,.int .u64 0,.string (Sv.bs [])] I41.h rfl gno rfl (fun b7_5=>?_))
 refine E6 ?_
 refine Zw 5 [_,_,_,_,_,_,_,_,_,_,_,_,_,_,_,_,_,_] #[_,_,_,_,_,_,_,_,_,_,_,_,_,_,_,_,_,_] ?_
 refine E6 ?_
 refine J2 ?_
 refine CV.join (fun(x:{x:SpX//x.ok z.bs.length})=>[(0,.slice A raw.length ac),(2,.slice C rails.length cc),(4,.slice D bases.length dc),(15,.pointer (some ⟨b3_5,0,none⟩)),(17,.int .i64 i),(18,.pointer (some ⟨b7_5,0,none⟩))]) (fun(x:{x:SpX//x.ok z.bs.length})=>Hp I w [OS 41 bdK z.dA z.dc z.ds,OS 183 railK rA rc (someM rails),OS 37 (intK .u64) z.bA z.bc x.1.bs,Blk b3_5 (.cells #[.slice z.dA z.ds.length z.dc,.slice rA (someM rails).length rc,.slice (sliA z x.1.dr) (z.bs.length-x.1.dr) (z.bc-x.1.dr)] 29 (0,0)),Blk b7_5 (.cells (bdC x.1.d).toArray 41 (0,0)),Big hwF (z.ds.set i x.1.d)]) ?_ ?_
 refine J1 ?_
 refine KV.heap (fun w h=>show Hp _ _ [_,_,_,_,_,_] _ from show Hp _ _ [_,_,_,_,_,Blk b7_5 (.cells (bdC (z.ds.getD i bdK.d)).toArray 41 (0,0))] _ from h) ?_
 refine J2 ?_
 refine Jr (Step.rem rfl rfl (by omega) (rfl)) ?_
 refine J5 ?_
 refine Jeq rfl rfl (fun cc1=>?_) (fun cc1=>?_)
 refine J4 ?_
 obtain⟨i2,hi2⟩:=Int.eq_ofNat_of_zero_le (modM_lt (IntKind.i64.wrap (kk.tdiv 7)) (n:=z.ds.length) (by omega)).1
 have hi29:i2<z.ds.length:=by have:=(modM_lt (IntKind.i64.wrap (kk.tdiv 7)) (n:=z.ds.length) (by omega)).2;omega
 refine Zt 9 ?_
 refine J3 ?_
 refine Sr (Step.quo rfl rfl (by omega) (rfl)) ?_
 refine J1 ?_
 refine SV.call C7.f C7.b C7.n rfl (Rl.mod_fn (IntKind.i64.wrap (kk.tdiv 7)) z.ds.length (by omega) (by omega)) gno rfl ?_
 rw[hi2]
 refine J3 ?_
 refine SV.nil ?_
 show KV _ (wpList _ _ _ _) _ _
 refine J1 ?_
 refine Zw 5 [_] #[_,_,_,_,_,_,_,_,_,_,_,_,_,_,_,_,_,_] ?_
 refine E6 ?_
 refine J3 ?_
 refine K6 [0,1,1,1,1,0] rfl ?_
 exact KV.join (⟨⟨(⟨(z.ds.getD i2 bdK.d).fn,(z.ds.getD i bdK.d).pw,(z.ds.getD i bdK.d).il,(z.ds.getD i bdK.d).drv⟩:BDv),z.bs,0⟩,SpX.mk0 hz hi9 rfl rfl⟩) (sb rfl) (fun _ h=>ds_set (X:=[_,_,_,_,_]) hi9 rfl rfl h)
 refine J6 ?_
 refine Jeq rfl rfl (fun cc2=>?_) (fun cc2=>?_)
 refine J4 ?_
 obtain⟨v9,hv9⟩: ∃v9:Int,IntKind.i64.wrap (modM kk 260-2)=v9:=⟨_,rfl⟩
 refine J2 ?_
 refine RV.op (Yp rfl (Rl.mod_fn kk 260 (by decide) (by decide)) ?_)
 refine E6 ?_
 refine Jr (Step.sub rfl rfl (hv9)) ?_
 refine J1 ?_
 refine Zw 5 [_] #[_,_,_,_,_,_,_,_,_,_,_,_,_,_,_,_,_,_] ?_
 refine E6 ?_
 refine J3 ?_
 refine K6 [0,1,1,1,1,0] rfl ?_
 exact KV.join (⟨⟨(⟨v9,(z.ds.getD i bdK.d).pw,(z.ds.getD i bdK.d).il,(z.ds.getD i bdK.d).drv⟩:BDv),z.bs,0⟩,SpX.mk0 hz hi9 rfl rfl⟩) (sb rfl) (fun _ h=>ds_set (X:=[_,_,_,_,_]) hi9 rfl rfl h)
 refine J6 ?_
 refine Jeq rfl rfl (fun cc3=>?_) (fun cc3=>?_)
 refine J4 ?_
 obtain⟨v9,hv9⟩: ∃v9:Int,IntKind.i64.wrap ((z.ds.getD i bdK.d).il.par-1)=v9:=⟨_,rfl⟩
 refine J4 ?_
 refine Jr (Step.sub rfl rfl (hv9)) ?_
 refine J2 ?_
 refine Zw 5 [_] #[_,_,_,_,_,_,_,_,_,_,_,_,_,_,_,_,_,_] ?_
 refine E6 ?_
 refine J3 ?_
 refine K6 [0,1,1,1,1,0] rfl ?_
 exact KV.join (⟨⟨(⟨(z.ds.getD i bdK.d).fn,(z.ds.getD i bdK.d).pw,⟨v9,(z.ds.getD i bdK.d).il.sup,(z.ds.getD i bdK.d).il.dly⟩,(z.ds.getD i bdK.d).drv⟩:BDv),z.bs,0⟩,SpX.mk0 hz hi9 rfl rfl⟩) (sb rfl) (fun _ h=>ds_set (X:=[_,_,_,_,_]) hi9 rfl rfl h)
 refine J6 ?_
 refine Jeq rfl rfl (fun cc4=>?_) (fun cc4=>?_)
 refine J4 ?_
 obtain⟨rk,hrk⟩:=Int.eq_ofNat_of_zero_le (modM_lt kk (n:=4) (by decide)).1
 have hrk4:rk<4:=by have:=(modM_lt kk (n:=4) (by decide)).2;omega
 refine J2 ?_
 refine RV.op (Yp rfl (Rl.mod_fn kk 4 (by decide) (by decide)) ?_)
 refine E6 ?_
 rw[hrk]
 refine RV.op (OV.buildSlice (K:=(intK .i64)) ([0]) rfl (Bs32_1_0 _) rfl rfl (by omega) gno rfl (fun b16_2=>?_))
 refine E7 ?_
 refine J2 ?_
 refine Jr (Step.idxArr Tryz.underlying33 I32.h rfl rfl _ rfl (by omega)) ?_
 refine RV.op (OV.store 5 [.slice b16_2 1 1] (bdC (⟨(z.ds.getD i bdK.d).fn,((z.ds.getD i bdK.d).pw.setR rk ⟨b16_2,1,[0]⟩),(z.ds.getD i bdK.d).il,(z.ds.getD i bdK.d).drv⟩:BDv)).toArray I32.h rfl rfl rfl rfl rfl (by show 0+1+1+rk* 1+1≤18;omega) (by simp[Value.oneCell']) (bd_storeR (z.ds.getD i bdK.d) ⟨b16_2,1,[0]⟩ hrk4) gno ?_)
 refine K7 [0,1,1,1,1,0,0] rfl ?_
 refine KV.heap (fun w h=>show Hp _ _ [_,_,_,_,_,_] _ from pdRs (X:=[_,_,_,_,_]) (h':=⟨b16_2,1,[0]⟩) (a:=(⟨(z.ds.getD i bdK.d).fn,((z.ds.getD i bdK.d).pw.setR rk ⟨b16_2,1,[0]⟩),(z.ds.getD i bdK.d).il,(z.ds.getD i bdK.d).drv⟩:BDv)) hi9 hrk4 ⟨rls_setR _ _ hrk4,rfl⟩ h) ?_
 refine J3 ?_
 refine E6 ?_
 exact KV.join (⟨⟨(⟨(z.ds.getD i bdK.d).fn,((z.ds.getD i bdK.d).pw.setR rk ⟨b16_2,1,[0]⟩),(z.ds.getD i bdK.d).il,(z.ds.getD i bdK.d).drv⟩:BDv),z.bs,0⟩,SpX.mk3 hz hi9 hrk4 _⟩) (sb rfl) (fun _ h=>h)
 refine J6 ?_
 refine Jeq rfl rfl (fun cc5=>?_) (fun cc5=>?_)
 refine J4 ?_
 obtain⟨rk,hrk⟩:=Int.eq_ofNat_of_zero_le (modM_lt kk (n:=4) (by decide)).1
 have hrk4:rk<4:=by have:=(modM_lt kk (n:=4) (by decide)).2;omega
 have hdl:(z.ds.getD i bdK.d).drv.length≤130000:=by rw[(hz1 i hi9).1.drv];exact drv_len (fun i hi=>(hdr i hi).2) i
 have hrl:=reg_len hrk4
 obtain⟨v9,hv9⟩: ∃v9:Bs,((z.ds.getD i bdK.d).drv++[111,110,32,105,114,113,32,45,62,32,111,102,102,58,32,114,101,97,100,32]++regL.getD rk [])=v9:=⟨_,rfl⟩
 have hv9l:v9.length≤900000:=by rw[←hv9];simp only[List.length_append,List.length_cons,List.length_nil];omega
 refine Zt 8 ?_
 refine J2 ?_
 refine Sr (Step.addStr (l2:=[111,110,32,105,114,113,32,45,62,32,111,102,102,58,32,114,101,97,100,32]) rfl rfl (by simp only[List.length_cons,List.length_nil];omega)) ?_
 refine Sr (Step.build (vs:=[(0,.string (Sv.bs [50,53,50])),(1,.string (Sv.bs [50,53,52])),(2,.string (Sv.bs [50,53,54])),(3,.string (Sv.bs [52]))]) rfl (Ba42_4 _ _ _ _)) ?_
 refine J1 ?_
 refine SV.call C7.f C7.b C7.n rfl (Rl.mod_fn kk 4 (by decide) (by decide)) gno rfl ?_
 rw[hrk]
 refine Sr (Step.index rfl rfl (reg_idx hrk4)) ?_
 refine Sr (Step.addStr rfl rfl (by simp only[List.length_append,List.length_cons,List.length_nil];omega)) ?_
 rw[hv9]
 refine SV.nil ?_
 show KV _ (wpList _ _ _ _) _ _
 refine J1 ?_
 refine Zw 5 [_] #[_,_,_,_,_,_,_,_,_,_,_,_,_,_,_,_,_,_] ?_
 refine E6 ?_
 refine J3 ?_
 refine K6 [0,1,1,1,1,0] rfl ?_
 exact KV.join (⟨⟨(⟨(z.ds.getD i bdK.d).fn,(z.ds.getD i bdK.d).pw,(z.ds.getD i bdK.d).il,v9⟩:BDv),z.bs,0⟩,SpX.mk4 hz hi9 hv9l⟩) (sb rfl) (fun _ h=>ds_set (X:=[_,_,_,_,_]) hi9 rfl rfl h)
 refine J6 ?_
 refine Jeq rfl rfl (fun cc6=>?_) (fun cc6=>?_)
 refine J4 ?_
 obtain⟨v7,hv7⟩: ∃v7:Int,IntKind.u64.wrap (modM kk 3)=v7:=⟨_,rfl⟩
 obtain⟨v8,hv8⟩: ∃v8:Int,IntKind.u64.wrap (v7* 128)=v8:=⟨_,rfl⟩
 obtain⟨v9,hv9⟩: ∃v9:Int,IntKind.u64.wrap (z.bs.getD i (intK .u64).d+v8)=v9:=⟨_,rfl⟩
 refine Zt 13 ?_
 refine J9 ?_
 refine SV.call C7.f C7.b C7.n rfl (Rl.mod_fn kk 3 (by decide) (by decide)) gno rfl ?_
 refine Sr (Step.convI Tryz.underlying3 Tryz.underlying37 rfl (hv7)) ?_
 refine Sr (Step.mul rfl rfl (hv8)) ?_
 refine Sr (Step.add rfl rfl (hv9)) ?_
 refine SV.nil ?_
 show KV _ (wpList _ _ _ _) _ _
 refine J1 ?_
 refine RV.op (Yx 3 (i) (v9) (j:=0) [_] rfl rfl rfl rfl rfl (by omega) rfl ?_)
 refine E6 ?_
 refine J3 ?_
 refine K6 [0,1,1,1,1,0] rfl ?_
 exact KV.join (⟨⟨(z.ds.getD i bdK.d),z.bs.set i (v9),0⟩,SpX.mk1 hz hi9 (hv9▸isU_wrap _)⟩) (sb rfl) (fun _ h=>ds_set (X:=[_,_,_,_,_]) hi9 rfl rfl h)
 refine J6 ?_
 refine Jeq rfl rfl (fun cc7=>?_) (fun cc7=>?_)
 refine J4 ?_
 refine J3 ?_
 refine Jr (Step.sliceLo Tryz.underlying25 I37.h rfl rfl (1) (rfl) (by omega)) ?_
 refine J1 ?_
 refine Zw 4 [_] #[_,_,_] ?_
 refine E6 ?_
 refine J3 ?_
 refine K6 [0,1,1,1,1,0] rfl ?_
 exact KV.join (⟨⟨(z.ds.getD i bdK.d),z.bs,1⟩,SpX.mk2 hz hi9⟩) (sb rfl) (fun _ h=>ds_set (X:=[_,_,_,_,_]) hi9 rfl rfl h)
 refine J6 ?_
 refine Jeq rfl rfl (fun cc8=>?_) (fun cc8=>?_)
 refine J4 ?_
 obtain⟨v9,hv9⟩: ∃v9:Int,z.bs.getD 0 (intK .u64).d=v9:=⟨_,rfl⟩
 have hv9u:Ios.isU v9:=hv9▸hz.2.2 0 (by omega)
 refine Zt 7 ?_
 refine J5 ?_
 refine Sr (Ti (fun w h=>h.os 3 rfl) rfl rfl (by first|rfl|omega) _ (show(0:Int)=((0:Nat):Int) from rfl) (by omega)) ?_
 refine J1 ?_
 rw[hv9]
 refine SV.nil ?_
 show KV _ (wpList _ _ _ _) _ _
 refine J1 ?_
 refine RV.op (Yx 3 (i) (v9) (j:=0) [_] rfl rfl rfl rfl rfl (by omega) rfl ?_)
 refine E6 ?_
 refine J3 ?_
 refine K6 [0,1,1,1,1,0] rfl ?_
 exact KV.join (⟨⟨(z.ds.getD i bdK.d),z.bs.set i v9,0⟩,SpX.mk1 hz hi9 hv9u⟩) (sb rfl) (fun _ h=>ds_set (X:=[_,_,_,_,_]) hi9 rfl rfl h)
 refine J7 ?_
 refine K6 [0,1,1,1,1,0] rfl ?_
 exact KV.join (⟨⟨(z.ds.getD i bdK.d),z.bs,0⟩,SpX.mk0 hz hi9 rfl rfl⟩) (sb rfl) (fun _ h=>ds_set (X:=[_,_,_,_,_]) hi9 rfl rfl h)
 intro x
 refine J6 ?_
 refine RV.op (Yx 0 (i) (x.1.d) (j:=0) [_,_,_,_,_,_,_,_,_,_,_,_,_,_,_,_,_,_] rfl rfl rfl rfl rfl (by omega) rfl ?_)
 refine E6 ?_
 refine J2 ?_
 refine K5 [0,4,0,0,0] rfl ?_
 exact KV.join (⟨⟨(⟨z.dA,z.dc,z.ds.set i x.1.d,z.bA,z.bc,x.1.bs⟩:HG),x.1.dr⟩,hz.set x.2,x.2.2.2.2⟩) (sb rfl) (fun w9 h=>by show Hp I w [OS 41 bdK z.dA z.dc (z.ds.set i x.1.d),Big hwF (z.ds.set i x.1.d),OS 183 railK rA rc (someM rails),OS 37 (intK .u64) z.bA z.bc x.1.bs,Blk b3_5 (.cells #[.slice z.dA (z.ds.set i x.1.d).length z.dc,.slice rA (someM rails).length rc,.slice (sliA z x.1.dr) (x.1.bs.length-x.1.dr) (z.bc-x.1.dr)] 29 (0,0))] w9;rw[List.length_set,x.2.2.1];exact h)
 refine J5 ?_
 refine E5 ?_
 exact KV.join (⟨⟨z,0⟩,hz,Nat.zero_le _⟩) (sb rfl) (fun _ h=>h)
 intro y
 refine J6 ?_
 refine Jr (Step.build rfl (Bd29_0_1_2 _ _ _ _ _ _ _ _ _)) ?_
 refine J1 ?_
 refine Jr (Step.build (vs:=[(0,_),(1,_)]) rfl (Ba43_2 _ _ _ _ _ _)) ?_
 refine J4 ?_
 refine E4 ?_
 refine CV.loopI (fun(j:Nat)=>j≤2) (fun(j:Nat)=>2-j) (fun(j:Nat)=>[(143,.agg #[.slice (⟨A,raw.length,ac,C,rails.length,cc,D,bases.length,dc⟩:HV).A (⟨A,raw.length,ac,C,rails.length,cc,D,bases.length,dc⟩:HV).n (⟨A,raw.length,ac,C,rails.length,cc,D,bases.length,dc⟩:HV).c,.slice (⟨A,raw.length,ac,C,rails.length,cc,D,bases.length,dc⟩:HV).B (⟨A,raw.length,ac,C,rails.length,cc,D,bases.length,dc⟩:HV).m (⟨A,raw.length,ac,C,rails.length,cc,D,bases.length,dc⟩:HV).d,.slice (⟨A,raw.length,ac,C,rails.length,cc,D,bases.length,dc⟩:HV).C (⟨A,raw.length,ac,C,rails.length,cc,D,bases.length,dc⟩:HV).q (⟨A,raw.length,ac,C,rails.length,cc,D,bases.length,dc⟩:HV).e,.slice (hvH y.1.z rA rc (someM rails).length y.1.dr).A (hvH y.1.z rA rc (someM rails).length y.1.dr).n (hvH y.1.z rA rc (someM rails).length y.1.dr).c,.slice (hvH y.1.z rA rc (someM rails).length y.1.dr).B (hvH y.1.z rA rc (someM rails).length y.1.dr).m (hvH y.1.z rA rc (someM rails).length y.1.dr).d,.slice (hvH y.1.z rA rc (someM rails).length y.1.dr).C (hvH y.1.z rA rc (someM rails).length y.1.dr).q (hvH y.1.z rA rc (someM rails).length y.1.dr).e]),(144,.int .i64 j)]) (fun(j:Nat)=>Hp I w [OS 41 bdK y.1.z.dA y.1.z.dc y.1.z.ds,Big hwF y.1.z.ds,OS 183 railK rA rc (someM rails),OS 37 (intK .u64) y.1.z.bA y.1.z.bc y.1.z.bs]) (0) (Nat.zero_le _) (sb rfl) (fun _ h=>h) ?_
 intro j hinv
 obtain⟨ds,rs,bs,hK⟩:=keyN (HH:=hwHH y.1.z rA rc (someM rails)) (v0:=(⟨A,raw.length,ac,C,rails.length,cc,D,bases.length,dc⟩:HV)) (v1:=(hvH y.1.z rA rc (someM rails).length y.1.dr)) ⟨_,_,_,KeyH.raw hI hr hr3 hr4 (fun i hi=>few_inn (hfw.2.1 i hi) (hb i hi).1 (hb i hi).2.1) (by have:=hfw.1;omega) (by have:=hfw.1;omega) (by omega) hu⟩ ⟨_,_,_,KeyH.made y.2.1 y.2.2 (by have:=Rails.some_len rails;omega)⟩ j
 refine J2 ?_
 refine Jlt rfl rfl (fun hj2=>?_) (fun hj2=>?_)
 refine J9 ?_
 have hx:=idx2 (⟨A,raw.length,ac,C,rails.length,cc,D,bases.length,dc⟩:HV) (hvH y.1.z rA rc (someM rails).length y.1.dr) (show j<2 by omega)
 generalize hvN (⟨A,raw.length,ac,C,rails.length,cc,D,bases.length,dc⟩:HV) (hvH y.1.z rA rc (someM rails).length y.1.dr) j=V at hK hx
 refine J1 ?_
 refine Jr (Step.index rfl rfl hx) ?_
 refine RV.op (Ya (fun b28_1=>?_))
 refine E5 ?_
 refine Zw 4 [_,_,_] #[_,_,_] ?_
 refine E5 ?_
 refine J4 ?_
 refine RV.op (Yc [] (F:=[_,_,_,_,_]) rfl rfl (fun w h=>Is.new_fn) (fun v L' hp=>?_))
 obtain⟨bb,rfl,rfl⟩:=hp
 refine KV.heap (fun w h=>show Hp _ _ [_,_,_,_,_,_] _ from bunEnd (X:=[_,_,_,_,_]) h) ?_
 refine E6 ?_
 refine J7 ?_
 refine RV.op (OV.split gno (Step.eqlP Tryz.underlying44 rfl rfl) rfl (fun hbn=>?_) (fun hbn=>?_))
 exact absurd hbn (by simp)
 refine J14 ?_
 refine RV.op (OV.call [5] (F:=[_,_,_,_,_]) C9.f C9.b C9.n rfl rfl (fun w h=>(NewPower_fn (hK.rd [_,_] _ h).1 hK.n hK.l1 (hK.rd [_,_] _ h).2.1 hK.m hK.l2 (hK.rd [_,_] _ h).2.2.1 hK.q hK.l3 (hK.rd [_,_] _ h).2.2.2 (Dv.EvR.keep h hE (hro 4 rfl)) bb Ios.bs0 Ios.bs0_ok hK.u).bun) (fun b hb=>hb.elim (fun h4=>Dv.roAt4 hE hro b h4) (fun h5=>hK.ro [_] b h5)) gno rfl (fun v L' hp=>?_))
 obtain⟨M2,hp,rfl⟩:=hp
 rcases three hp with ⟨hok,e1,s2,he1,rfl,p1,rfl,hfr,rfl⟩|⟨hok,e1,s2,he1,hne,rfl,rfl⟩|⟨hok,rfl,rfl⟩
 refine KV.heap (fun w h=>show Hp _ _ [_,_,_,_,_,_,_] _ from cpKeep (X:=[_,_,_,_,_]) h) ?_
 refine J15 ?_
 refine Jr (Step.build rfl Bd59z) ?_
 refine RV.op (OV.box (t:=59) (Ios.rbC Ios.rb0).toArray rfl rfl gno rfl (fun cb2=>?_))
 (first|refine KV.heap (fun w h=>show Hp _ _ [_,_,_,_,_,_,_,_] _ from rbNew (X:=[_,_,_,_,_,_,_]) h) ?_|refine KV.heap (fun w h=>show Hp _ _ [_,_,_,_,_,_,_] _ from rbNew (X:=[_,_,_,_,_,_]) h) ?_)
 refine RV.op (OV.call [7] (F:=[_,_,_,_,_,_,_]) C10.f C10.b C10.n rfl rfl (fun w h=>NewPowerR_fn (hK.rd [_,_,_,_] _ h).1 hK.n hK.l1 (hK.rd [_,_,_,_] _ h).2.1 hK.m hK.l2 (hK.rd [_,_,_,_] _ h).2.2.1 hK.q hK.l3 (hK.rd [_,_,_,_] _ h).2.2.2 cb2 Ios.rb0 Ios.Rel.start.rk hK.u) (fun b hb=>hK.ro [_,_,_] b hb) gno rfl (fun v L' hp=>?_))
 obtain⟨f1,r2,hf1,hor⟩:=hp.1 hok
 have hef:=end_eq Ios.Rel.start (fun j hj=>hK.u j (by have:=hok.nb;omega)) he1 hf1
 refine Or.elim hor ?_ (fun h9=>absurd hef.symm h9.1)
 rintro⟨hf0,p2,rfl,hfr2,rfl⟩
 refine KV.heap (fun w h=>show Hp _ _ [_,_,_,_,_,_,_,_,_] _ from rpKeep (X:=[_,_,_,_,_,_,_]) h) ?_
 refine E9 ?_
 refine J12 ?_
 refine Jne rfl rfl (fun hef2=>?_) (fun hef2=>?_)
 exact absurd rfl hef2
 refine J2 ?_
 refine Jr (Step.eqlP Tryz.underlying46 rfl rfl) ?_
 refine J2 ?_
 refine Jr (Step.neqBool Tryz.underlying4 rfl rfl) ?_
 refine J3 ?_
 refine KV.cases 182 rfl (fun cc9=>?_) (fun cc9=>?_)
 have hq35:=cc9
 refine J13 ?_
 refine E0 ?_
 exfalso
 (first|(revert hq35;simp[hne])|(revert hq35;simp))
 refine J7 ?_
 (first|rw[decide_eq_false hne]|rw[decide_eq_true (show(0:Int)=0 from rfl)]|rw[decide_eq_false (show ¬(1:Int)=0 from by decide)])
 refine J2 ?_
 refine RV.op (Yc [5,5] (F:=[_,_,_,_,_,_,_]) rfl rfl (fun w h=>porder_fn p1.b (by rw[hfr.od];have:=hok.seq;have:=hok.n;omega)) (fun v L' hp=>?_))
 obtain⟨A8,c8,rfl,rfl⟩:=hp
 refine E10 ?_
 refine J1 ?_
 refine RV.op (Yc [5,5] (F:=[_,_,_,_,_,_,_,_]) rfl rfl (fun w h=>rporder_fn p2.b p2.n (by rw[hfr2.lk];exact hok.seq.1) (by rw[hfr2.lk,hfr2.n];exact hok.seq.2.1)) (fun v L' hp=>?_))
 obtain⟨A9,c9,rfl,rfl⟩:=hp
 refine E11 ?_
 refine RV.op (Yc [] (F:=[_,_,_,_,_,_,_,_,_,_,_]) rfl rfl (fun w h=>equalI_fn (h.os 7 rfl) rfl (h.os 10 rfl) (by rw[hfr2.lk,hfr2.n];exact hok.seq.2.2.symm) (by rw[hfr.od];have:=hok.seq;have:=hok.n;omega)) (fun v L' hp=>?_))
 obtain⟨rfl,rfl⟩:=hp
 rw[decide_eq_true (show p1.od=seqM p2.n p2.lk by rw[hfr.od,hfr2.n,hfr2.lk])]
 refine E11 ?_
 refine J13 ?_
 refine E4 ?_
 exact KV.loopI (z:=j) (j+1) (by omega) (by omega) (sb rfl) (fun _ h=>h)
 refine KV.heap (fun w h=>show Hp _ _ [_,_,_,_,_,_] _ from h) ?_
 refine J15 ?_
 refine Jr (Step.build rfl Bd59z) ?_
 refine RV.op (OV.box (t:=59) (Ios.rbC Ios.rb0).toArray rfl rfl gno rfl (fun cb2=>?_))
 (first|refine KV.heap (fun w h=>show Hp _ _ [_,_,_,_,_,_,_,_] _ from rbNew (X:=[_,_,_,_,_,_,_]) h) ?_|refine KV.heap (fun w h=>show Hp _ _ [_,_,_,_,_,_,_] _ from rbNew (X:=[_,_,_,_,_,_]) h) ?_)
 refine RV.op (OV.call [6] (F:=[_,_,_,_,_,_]) C10.f C10.b C10.n rfl rfl (fun w h=>NewPowerR_fn (hK.rd [_,_,_] _ h).1 hK.n hK.l1 (hK.rd [_,_,_] _ h).2.1 hK.m hK.l2 (hK.rd [_,_,_] _ h).2.2.1 hK.q hK.l3 (hK.rd [_,_,_] _ h).2.2.2 cb2 Ios.rb0 Ios.Rel.start.rk hK.u) (fun b hb=>hK.ro [_,_] b hb) gno rfl (fun v L' hp=>?_))
 obtain⟨f1,r2,hf1,hor⟩:=hp.1 hok
 have hef:=end_eq Ios.Rel.start (fun j hj=>hK.u j (by have:=hok.nb;omega)) he1 hf1
 rcases hor with ⟨hf0,p2,rfl,hfr2,rfl⟩|⟨hf0,rfl,rfl⟩
 exact absurd (hef.trans hf0) hne
 subst hef
 refine E7 ?_
 refine J12 ?_
 refine Jne rfl rfl (fun hef2=>?_) (fun hef2=>?_)
 exact absurd rfl hef2
 refine J2 ?_
 refine Jr (Step.eqlP Tryz.underlying46 rfl rfl) ?_
 refine J2 ?_
 refine Jr (Step.neqBool Tryz.underlying4 rfl rfl) ?_
 refine J3 ?_
 refine KV.cases 182 rfl (fun cc10=>?_) (fun cc10=>?_)
 have hq35:=cc10
 refine J13 ?_
 refine E0 ?_
 exfalso
 (first|(revert hq35;simp[hne])|(revert hq35;simp))
 refine J7 ?_
 (first|rw[decide_eq_false hne]|rw[decide_eq_true (show(0:Int)=0 from rfl)]|rw[decide_eq_false (show ¬(1:Int)=0 from by decide)])
 refine J15 ?_
 refine J4 ?_
 refine E4 ?_
 exact KV.loopI (z:=j) (j+1) (by omega) (by omega) (sb rfl) (fun _ h=>h)
 refine KV.heap (fun w h=>show Hp _ _ [_,_,_,_,_,_] _ from h) ?_
 refine J15 ?_
 refine Jr (Step.build rfl Bd59z) ?_
 refine RV.op (OV.box (t:=59) (Ios.rbC Ios.rb0).toArray rfl rfl gno rfl (fun cb2=>?_))
 (first|refine KV.heap (fun w h=>show Hp _ _ [_,_,_,_,_,_,_,_] _ from rbNew (X:=[_,_,_,_,_,_,_]) h) ?_|refine KV.heap (fun w h=>show Hp _ _ [_,_,_,_,_,_,_] _ from rbNew (X:=[_,_,_,_,_,_]) h) ?_)
 refine RV.op (OV.call [6] (F:=[_,_,_,_,_,_]) C10.f C10.b C10.n rfl rfl (fun w h=>NewPowerR_fn (hK.rd [_,_,_] _ h).1 hK.n hK.l1 (hK.rd [_,_,_] _ h).2.1 hK.m hK.l2 (hK.rd [_,_,_] _ h).2.2.1 hK.q hK.l3 (hK.rd [_,_,_] _ h).2.2.2 cb2 Ios.rb0 Ios.Rel.start.rk hK.u) (fun b hb=>hK.ro [_,_] b hb) gno rfl (fun v L' hp=>?_))
 obtain⟨rfl,rfl⟩:=hp.2 hok
 refine E7 ?_
 refine J12 ?_
 refine Jne rfl rfl (fun hef2=>?_) (fun hef2=>?_)
 exact absurd rfl hef2
 refine J2 ?_
 refine Jr (Step.eqlP Tryz.underlying46 rfl rfl) ?_
 refine J2 ?_
 refine Jr (Step.neqBool Tryz.underlying4 rfl rfl) ?_
 refine J3 ?_
 refine KV.cases 182 rfl (fun cc11=>?_) (fun cc11=>?_)
 have hq35:=cc11
 refine J13 ?_
 refine E0 ?_
 exfalso
 (first|(revert hq35;simp[hne])|(revert hq35;simp))
 refine J7 ?_
 (first|rw[decide_eq_false hne]|rw[decide_eq_true (show(0:Int)=0 from rfl)]|rw[decide_eq_false (show ¬(1:Int)=0 from by decide)])
 refine J15 ?_
 refine J4 ?_
 refine E4 ?_
 exact KV.loopI (z:=j) (j+1) (by omega) (by omega) (sb rfl) (fun _ h=>h)
 refine J11 ?_
 refine RV.op (Yc [] (F:=[_,_,_,_]) rfl rfl (fun w h=>awake_fn) (fun v L' hp=>?_))
 obtain⟨rfl,rfl⟩:=hp
 refine E4 ?_
 refine J4 ?_
 refine E0 ?_
 exact Rb rfl rfl ⟨rfl,rfl⟩
 refine J10 ?_
 refine RV.op (Yc [] (F:=[]) rfl rfl (fun w h=>awake_fn) (fun v L' hp=>?_))
 obtain⟨rfl,rfl⟩:=hp
 refine J5 ?_
 refine E0 ?_
 exact Rb rfl rfl ⟨rfl,rfl⟩
end Go.Proofs.YtkofjhglgoojiaaGreatDoor.Pw
