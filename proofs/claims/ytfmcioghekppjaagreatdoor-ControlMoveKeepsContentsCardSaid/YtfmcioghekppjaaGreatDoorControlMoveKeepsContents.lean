/-
  ControlMoveKeepsContents, the whole claim: after a change of the bases every device has its new base and the contents of its registers; old registers that are not used again are not mapped. No condition.
-/
import Derived.Test.YtfmcioghekppjaaGreatDoorRows
import Derived.Test.YtfmcioghekppjaaGreatDoorTie
import Derived.Test.YtfmcioghekppjaaGreatDoorCards
import Derived.Test.YtfmcioghekppjaaGreatDoorP22
import Derived.Test.YtfmcioghekppjaaGreatDoorP12
import Derived.Test.YtfmcioghekppjaaGreatDoorP21
import Derived.ProofKit
import Derived.OpenShut
import Derived.ChangeOld
import Derived.Below
import Derived.ChangeMaps5
import Derived.ChangeSame
import Derived.ChangeVars
import Derived.JoinedOf
import Derived.RowKit
import Derived.RowKitTokens
import Derived.Lay
import Derived.SevenTiedAt
set_option linter.unusedSimpArgs false
set_option linter.unusedVariables false
namespace Go.Proofs.YtfmcioghekppjaaGreatDoor.controlMoveKeepsContents
open Go Go.ChangeShapes Go.WideShapes Go.ChangeAt Go.RowKit Go.Sv Go.Pw Go.Proofs.YtfmcioghekppjaaGreatDoor.Pw Go.Proofs.YtfmcioghekppjaaGreatDoor.Dv
theorem own:ownKnob Tryz.prog.godebug=none:=by kernel_rfl
theorem laidOut:laidOutB Tryz.prog=true:=kHD
set_option maxRecDepth 100000 in
set_option maxHeartbeats 4000000 in
theorem lifted (os:Os) (started:os.Started) (H:Type) (enc:TypeId×Value→H):
 ReturnsInHanded {} Tryz.checked os 3 .any (fun w args=>(Rows.controlMoveKeepsContentsSpec.pre enc Tryz.prog Tryz.f3 [] false w args∧laidMetH Tryz.prog Rows.controlMoveKeepsContentsRow.laid w)∧sizedMet enc Tryz.prog Tryz.f3 (OpenSpec.ofChange Rows.controlMoveKeepsContentsSpec) false w args)
  (Rows.controlMoveKeepsContentsSpec.post enc Tryz.prog Tryz.f3 false true false false):=by
 refine returnsInHanded_of_change_and (C:=Tryz.checked) (X:=fun w _=>laidMetH Tryz.prog Rows.controlMoveKeepsContentsRow.laid w) (fun _ _ _ hh h=>h.of_heap hh) own started (by kernel_rfl) Tryz.func3
  (ChangeSpec.witness_shaped (enc:=enc) (C:=Tryz.checked) (os:=os) (X:=fun w _=>laidMetH Tryz.prog Rows.controlMoveKeepsContentsRow.laid w) false (World.laidAll Tryz.prog os Rows.controlMoveKeepsContentsRow.laid) #[.slice none 0 0,.slice none 0 0,.slice none 0 0,.int .i64 0,.int .i64 0,.slice none 0 0] 8 (World.laidAll_os _ _ _)
   (World.shaped_of_ZipB (by kernel_rfl) (by kernel_rfl)) (by kernel_rfl) (by kernel_rfl) (by kernel_rfl)
   (by rw[MakeChecks.laidMetH_plain _ _ _ (by kernel_rfl)];exact laidMet_laidAll _ (by kernel_rfl) (by kernel_rfl))) ?_
 intro W base args ds gs before hval0 hW _ _ hL _;have hval: ∀(j:Nat) t v,Tryz.f3.params[j]?=some t→args[j]?=some v→Value.okWide Tryz.prog W .any base t v:=hval0;have hW':=hW;obtain⟨p,q,hA0,hV,rfl,hfz,hnd⟩:=hW;have hA:DataW.TrodAll enc Tryz.prog W 0 (fun _=>true) true Tryz.f3.params.toList args.toList ds p:=hA0;rw[Tryz.params3] at hA hval;obtain⟨v0,vs0,d0,ds0,p0,q0,hargs,rfl,rfl,h0,t0⟩:=trodAll_cons hA;obtain⟨v1,vs1,d1,ds1,p1,q1,rfl,rfl,rfl,h1,t1⟩:=trodAll_cons t0;obtain⟨v2,vs2,d2,ds2,p2,q2,rfl,rfl,rfl,h2,t2⟩:=trodAll_cons t1;obtain⟨v3,vs3,d3,ds3,p3,q3,rfl,rfl,rfl,h3,t3⟩:=trodAll_cons t2;obtain⟨v4,vs4,d4,ds4,p4,q4,rfl,rfl,rfl,h4,t4⟩:=trodAll_cons t3;obtain⟨v5,vs5,d5,ds5,p5,q5,rfl,rfl,rfl,h5,t5⟩:=trodAll_cons t4;obtain⟨rfl,rfl,rfl⟩:=trodAll_nil t5;obtain rfl:args= #[v0,v1,v2,v3,v4,v5]:=by cases args;simp_all
 obtain⟨rfl,rfl⟩:=trodVars_none hV;have k0:=h0;have lt0: ∀x∈p0,x.block<W.heap.size:=by obtain⟨m,hm⟩:=k0;exact DataW.trod_lt m _ _ _ hm
 obtain⟨a0,c0,ys0,rfl,r0,b0,g0⟩:=kFK bdK (fun a=>a.pw.rs W∧RS W (Rails.intK .i64) a.il.sup.A a.il.sup.ys∧0≤a.il.dly) Tryz.underlying22 cz61 (fun _ _ _ h=>el1 kSp h) (hval 0 22 v0 rfl rfl) h0;have k1:=h1;have lt1: ∀x∈p1,x.block<W.heap.size:=by obtain⟨m,hm⟩:=k1;exact DataW.trod_lt m _ _ _ hm
 obtain⟨a1,c1,ys1,rfl,r1,b1,g1⟩:=kFK dhK (fun a=>Go.Drv.DR W a∧Go.Drv.rgD a.d) Tryz.underlying23 cz66 (fun _ _ _ h=>el1 kSt h) (hval 1 23 v1 rfl rfl) h1;have k2:=h2;have lt2: ∀x∈p2,x.block<W.heap.size:=by obtain⟨m,hm⟩:=k2;exact DataW.trod_lt m _ _ _ hm
 obtain⟨a2,c2,ys2,rfl,r2,b2,g2⟩:=kFK Rails.railK (fun a=>Rails.kHJ a) Tryz.underlying24 kRM (fun _ _ _ h=>el1 kM2 h) (hval 2 24 v2 rfl rfl) h2;have k3:=h3;have lt3: ∀x∈p3,x.block<W.heap.size:=by obtain⟨m,hm⟩:=k3;exact DataW.trod_lt m _ _ _ hm
 obtain⟨x3,rfl,_,_,w3⟩:=open_int Tryz.underlying3 (hval 3 3 v3 rfl rfl) h3;have k4:=h4;have lt4: ∀x∈p4,x.block<W.heap.size:=by obtain⟨m,hm⟩:=k4;exact DataW.trod_lt m _ _ _ hm
 obtain⟨x4,rfl,_,_,w4⟩:=open_int Tryz.underlying3 (hval 4 3 v4 rfl rfl) h4;have k5:=h5;have lt5: ∀x∈p5,x.block<W.heap.size:=by obtain⟨m,hm⟩:=k5;exact DataW.trod_lt m _ _ _ hm
 obtain⟨a5,c5,ys5,rfl,r5,b5,g5⟩:=kFK (Rails.intK .u8) (fun a=>0≤a∧a≤255) Tryz.underlying25 cz5 (fun _ _ _ h=>el1 kSv h) (hval 5 25 v5 rfl rfl) h5;clear hA0 hval0;rw[MakeChecks.laidMetH_plain _ _ _ (by kernel_rfl)] at hL;have hE:EvR W:=kRS hL (by first|exact .head _|exact .tail _ (.head _)|exact .tail _ (.tail _ (.head _))|exact .tail _ (.tail _ (.tail _ (.head _)))|exact .tail _ (.tail _ (.tail _ (.tail _ (.head _))))|exact .tail _ (.tail _ (.tail _ (.tail _ (.tail _ (.head _))))));refine(Fx.topR (kGS r0 rfl b0 g0 r1 rfl b1 g1 r2 rfl g2 r5 rfl g5 hE x3 x4)).mono fun e W' ⟨he,bel⟩=>?_;subst he;exact⟨_,rfl,_,_,_,[],_,[],hW',trodAll_mk1 (shut_bool Tryz.underlying4 _),(trodAll_cons_mk (Below.trod laidOut (by kernel_rfl) (of_decide_eq_true (by kernel_rfl)) k0 bel lt0) (trodAll_cons_mk (Below.trod laidOut (by kernel_rfl) (of_decide_eq_true (by kernel_rfl)) k1 bel lt1) (trodAll_cons_mk (Below.trod laidOut (by kernel_rfl) (of_decide_eq_true (by kernel_rfl)) k2 bel lt2) (trodAll_cons_mk (Below.trod laidOut (by kernel_rfl) (of_decide_eq_true (by kernel_rfl)) k3 bel lt3) (trodAll_cons_mk (Below.trod laidOut (by kernel_rfl) (of_decide_eq_true (by kernel_rfl)) k4 bel lt4) (trodAll_cons_mk (Below.trod laidOut (by kernel_rfl) (of_decide_eq_true (by kernel_rfl)) k5 bel lt5) trodAll_mk0)))))),rfl,bel.frame _,fun h=>by cases h⟩
theorem holds:Rows.ControlMoveKeepsContentsSaid:=
 OpenClaim.holds_of_wide 3 Tryz.f3 rfl rfl rfl rfl rfl rfl rfl ⟨rfl,rfl,rfl,rfl,rfl⟩ rfl rfl rfl rfl rfl (by kernel_rfl) Tryz.func3 closed
  (of_decide_eq_true (by kernel_rfl)) (by unfold Func.isWrapper;first|(rw[if_pos (by decide+kernel)];kernel_rfl)|(rw[if_neg (by decide+kernel)];exact⟨rfl,rfl⟩))
  (fun os started H enc _=>lifted os started H enc)
theorem proved:Rows.ControlMoveKeepsContentsCardSaid:=
 Claim7.holds_tied_plain_at .later [] [.data,.data,.data,.data,.sentinel,.sentinel,.pinned] true (true,"d5c2424d9bb393ac5cac434cac3cd2818b0c691679ff0798cef449d44af5574d") true holds (fun _ h=>by cases h) (by kernel_rfl) (fun _ h=>by cases h) controlMoveKeepsContents_row_tie rfl ⟨rfl,rfl⟩ (by kernel_rfl) rfl
  (fun f fn hf hfn=>by
   obtain rfl:f=3:=Option.some.inj ((show Tryz.prog.funcNamed "platformfw/platformfwlaw44.ControlMoveKeepsContents"=some 3 by kernel_rfl).symm.trans hf) |>.symm;obtain rfl:fn=Tryz.f3:=(Option.some.inj (Tryz.func3.symm.trans hfn)).symm;exact⟨by kernel_rfl,fun j t ht=>by
    rw[Tryz.params3] at ht;have hm:t∈[22,23,24,3,3,25]:=by simpa using Array.mem_of_getElem? ht
    have hall:([22,23,24,3,3,25].all fun u=>!Tryz.prog.wantsStandIn u)=true:=by kernel_rfl
    exact(show Tryz.prog.wantsStandIn t=false by simpa using List.all_eq_true.1 hall t hm)⟩)
  (by kernel_rfl)
#print axioms proved
end Go.Proofs.YtfmcioghekppjaaGreatDoor.controlMoveKeepsContents
