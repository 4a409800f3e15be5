/-
  The law for all arguments.
-/
import Derived.Test.YtepmocimmmjinaaGreatDoorRows
import Derived.Test.YtepmocimmmjinaaGreatDoorTie
import Derived.Test.YtepmocimmmjinaaGreatDoorCards
import Derived.Test.YtepmocimmmjinaaGreatDoorP24
import Derived.Test.YtepmocimmmjinaaGreatDoorP12
import Derived.Test.YtepmocimmmjinaaGreatDoorP23
import Derived.ProofKit
import Derived.OpenShut
import Derived.ChangeOld
import Derived.Below
import Derived.ChangeMaps5
import Derived.ChangeSame
import Derived.ChangeVars
import Derived.JoinedOf
import Derived.RowKit
import Derived.RowKitTokens
import Derived.Lay
import Derived.SevenTiedAt
set_option linter.unusedSimpArgs false
set_option linter.unusedVariables false
namespace Go.Proofs.YtepmocimmmjinaaGreatDoor.controlStoppedDriversRest
open Go Go.ChangeShapes Go.WideShapes Go.ChangeAt Go.RowKit Go.Sv Go.Pw Go.Proofs.YtepmocimmmjinaaGreatDoor.Pw Go.Proofs.YtepmocimmmjinaaGreatDoor.Dv
theorem own:ownKnob Tryz.prog.godebug=none:=by kernel_rfl
theorem laidOut:laidOutB Tryz.prog=true:=GN
set_option maxRecDepth 100000 in
set_option maxHeartbeats 4000000 in
theorem lifted (os:Os) (f:os.Started) (H:Type) (enc:TypeId×Value→H):
 ReturnsInHanded {} Tryz.checked os 3 .any (fun w args=>(Rows.controlStoppedDriversRestSpec.pre enc Tryz.prog Tryz.f3 [] false w args∧laidMetH Tryz.prog Rows.controlStoppedDriversRestRow.laid w)∧sizedMet enc Tryz.prog Tryz.f3 (OpenSpec.ofChange Rows.controlStoppedDriversRestSpec) false w args)
  (Rows.controlStoppedDriversRestSpec.post enc Tryz.prog Tryz.f3 false true false false):=by
 refine returnsInHanded_of_change_and (C:=Tryz.checked) (X:=fun w _=>laidMetH Tryz.prog Rows.controlStoppedDriversRestRow.laid w) (fun _ _ _ hh h=>h.of_heap hh) own f (by kernel_rfl) Tryz.func3
  (ChangeSpec.witness_shaped (enc:=enc) (C:=Tryz.checked) (os:=os) (X:=fun w _=>laidMetH Tryz.prog Rows.controlStoppedDriversRestRow.laid w) false (World.laidAll Tryz.prog os Rows.controlStoppedDriversRestRow.laid) #[.slice none 0 0,.slice none 0 0,.slice none 0 0,.int .i64 0,.int .i64 0,.slice none 0 0] 8 (World.laidAll_os _ _ _)
   (World.shaped_of_ZipB (by kernel_rfl) (by kernel_rfl)) (by kernel_rfl) (by kernel_rfl) (by kernel_rfl)
   (by rw[MakeChecks.laidMetH_plain _ _ _ (by kernel_rfl)];exact laidMet_laidAll _ (by kernel_rfl) (by kernel_rfl))) ?_
 intro W base args ds gs l g D _ _ E _;have b: ∀(j:Nat) t v,Tryz.f3.params[j]?=some t→args[j]?=some v→Value.okWide Tryz.prog W .any base t v:=g;have n:=D;obtain⟨p,q,k,hV,rfl,g6,g7⟩:=D;have F:DataW.TrodAll enc Tryz.prog W 0 (fun _=>true) true Tryz.f3.params.toList args.toList ds p:=k;rw[Tryz.params3] at F b;obtain⟨G,g8,d0,g9,p0,q0,o,rfl,rfl,I,t0⟩:=trodAll_cons F;obtain⟨J,i6,d1,i7,p1,q1,rfl,rfl,rfl,K,t1⟩:=trodAll_cons t0;obtain⟨L,i8,d2,j3,p2,q2,rfl,rfl,rfl,M,t2⟩:=trodAll_cons t1;obtain⟨N,j4,d3,j5,p3,q3,rfl,rfl,rfl,O,t3⟩:=trodAll_cons t2;obtain⟨P,j6,d4,j7,p4,q4,rfl,rfl,rfl,Q,t4⟩:=trodAll_cons t3;obtain⟨R,j8,d5,j9,p5,q5,rfl,rfl,rfl,S,t5⟩:=trodAll_cons t4;obtain⟨rfl,rfl,rfl⟩:=trodAll_nil t5;obtain rfl:args= #[G,J,L,N,P,R]:=by cases args;simp_all
 obtain⟨rfl,rfl⟩:=trodVars_none hV;have T:=I;have r: ∀x∈p0,x.block<W.heap.size:=by obtain⟨m,i⟩:=T;exact DataW.trod_lt m _ _ _ i
 obtain⟨a0,c0,l4,rfl,r0,b0,g0⟩:=xw aG (fun a=>a.pw.rs W∧RS W (Rails.aD .i64) a.il.sup.A a.il.sup.ys∧0≤a.il.dly) Tryz.underlying22 vZ (fun _ _ _ h=>xx Qv h) (b 0 22 G rfl rfl) I;have U:=K;have s: ∀x∈p1,x.block<W.heap.size:=by obtain⟨m,i⟩:=U;exact DataW.trod_lt m _ _ _ i
 obtain⟨a1,c1,l5,rfl,r1,b1,g1⟩:=xw gl (fun a=>Go.Drv.DR W a∧Go.Drv.du a.d) Tryz.underlying23 va (fun _ _ _ h=>xx Qw h) (b 1 23 J rfl rfl) K;have V:=M;have u: ∀x∈p2,x.block<W.heap.size:=by obtain⟨m,i⟩:=V;exact DataW.trod_lt m _ _ _ i
 obtain⟨a2,c2,ys2,rfl,r2,b2,g2⟩:=xw Rails.aE (fun a=>Rails.xy a) Tryz.underlying24 GP (fun _ _ _ h=>xx Qx h) (b 2 24 L rfl rfl) M;have Y:=O;have y: ∀x∈p3,x.block<W.heap.size:=by obtain⟨m,i⟩:=Y;exact DataW.trod_lt m _ _ _ i
 obtain⟨x3,rfl,_,_,w3⟩:=open_int Tryz.underlying3 (b 3 3 N rfl rfl) O;have Z:=Q;have z: ∀x∈p4,x.block<W.heap.size:=by obtain⟨m,i⟩:=Z;exact DataW.trod_lt m _ _ _ i
 obtain⟨x4,rfl,_,_,w4⟩:=open_int Tryz.underlying3 (b 4 3 P rfl rfl) Q;have k5:=S;have B: ∀x∈p5,x.block<W.heap.size:=by obtain⟨m,i⟩:=k5;exact DataW.trod_lt m _ _ _ i
 obtain⟨a5,c5,l6,rfl,r5,b5,g5⟩:=xw fP (fun _=>True) Tryz.underlying25 vb (fun _ _ _ h=>xx Qy h) (b 5 25 R rfl rfl) S;clear k g;rw[MakeChecks.laidMetH_plain _ _ _ (by kernel_rfl)] at E;have hE:dw W:=Qz E (by first|exact .head _|exact .tail _ (.head _)|exact .tail _ (.tail _ (.head _))|exact .tail _ (.tail _ (.tail _ (.head _)))|exact .tail _ (.tail _ (.tail _ (.tail _ (.head _))))|exact .tail _ (.tail _ (.tail _ (.tail _ (.tail _ (.head _))))));refine(Fx.topR (RC r0 rfl b0 g0 r1 rfl b1 g1 r2 rfl g2 r5 rfl hE x3 x4)).mono fun e W' ⟨he,c⟩=>?_;subst he;exact⟨_,rfl,_,_,_,[],_,[],n,trodAll_mk1 (shut_bool Tryz.underlying4 _),(trodAll_cons_mk (Below.trod laidOut (by kernel_rfl) (of_decide_eq_true (by kernel_rfl)) T c r) (trodAll_cons_mk (Below.trod laidOut (by kernel_rfl) (of_decide_eq_true (by kernel_rfl)) U c s) (trodAll_cons_mk (Below.trod laidOut (by kernel_rfl) (of_decide_eq_true (by kernel_rfl)) V c u) (trodAll_cons_mk (Below.trod laidOut (by kernel_rfl) (of_decide_eq_true (by kernel_rfl)) Y c y) (trodAll_cons_mk (Below.trod laidOut (by kernel_rfl) (of_decide_eq_true (by kernel_rfl)) Z c z) (trodAll_cons_mk (Below.trod laidOut (by kernel_rfl) (of_decide_eq_true (by kernel_rfl)) k5 c B) trodAll_mk0)))))),rfl,c.frame _,fun h=>by cases h⟩
theorem holds:Rows.ControlStoppedDriversRestSaid:=
 OpenClaim.holds_of_wide 3 Tryz.f3 rfl rfl rfl rfl rfl rfl rfl ⟨rfl,rfl,rfl,rfl,rfl⟩ rfl rfl rfl rfl rfl (by kernel_rfl) Tryz.func3 closed
  (of_decide_eq_true (by kernel_rfl)) (by unfold Func.isWrapper;first|(rw[if_pos (by decide+kernel)];kernel_rfl)|(rw[if_neg (by decide+kernel)];exact⟨rfl,rfl⟩))
  (fun os a H enc _=>lifted os a H enc)
end Go.Proofs.YtepmocimmmjinaaGreatDoor.controlStoppedDriversRest
