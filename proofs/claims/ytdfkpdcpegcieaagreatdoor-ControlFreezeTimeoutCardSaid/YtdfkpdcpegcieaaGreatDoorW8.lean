/-
 Walks, part 8.
-/
import Derived.Test.YtdfkpdcpegcieaaGreatDoorTabA
import Derived.Test.YtdfkpdcpegcieaaGreatDoorW7
import Derived.Test.YtdfkpdcpegcieaaGreatDoorObA
set_option linter.unusedSimpArgs false
set_option linter.unusedVariables false
namespace Go.Proofs.YtdfkpdcpegcieaaGreatDoor
open Go.Sv Go.Perf Go.Ctl
set_option maxRecDepth 100000 in
set_option maxHeartbeats 1000000 in
theorem busNew_fn {w : World} : Fx Tryz.prog 32 [] w [] no (fun v L => (∃ b, v = .pointer (some ⟨b, 0, none⟩)) ∧ L = []) := by
 refine Sv.Fx.body Tryz.func32 rfl T32 rfl ?_
 intro I hro hI
 refine KV.env [] trivial (CV.seq (CV.region ?_))
 refine RV.a rfl rfl ?_
 refine RV.nil (KV.then_n (KV.env [] trivial (CV.seq (CV.region ?_))))
 refine RV.s (Step.build rfl (Bd163_)) rfl ?_
 refine RV.op (OV.box (t := 163) #[_, _, _, _, _, _, _, _, _, _, _, _, _, _, _, _, _, _, _, _, _, _, _, _, _, _, _, _, _, _, _, _, _, _, _, _, _, _, _, _, _, _, _, _, _, _, _, _, _, _, _, _, _, _, _, _, _, _, _, _, _, _, _, _, _, _, _, _, _, _, _, _, _, _, _, _, _, _, _, _, _, _, _, _, _, _, _, _, _, _, _, _, _, _, _, _, _, _, _, _, _, _, _, _, _, _, _, _, _, _, _, _, _, _, _, _, _, _, _, _, _, _, _, _, _, _, _, _, _, _, _, _, _, _, _, _, _, _, _, _, _, _, _, _, _, _, _, _, _, _, _, _, _, _, _, _, _, _, _, _, _, _, _, _, _, _, _, _, _, _, _, _, _, _, _, _, _, _, _, _, _, _, _, _, _, _, _, _, _, _, _, _, _, _, _, _, _, _, _, _, _, _, _, _, _, _, _, _, _, _, _, _, _, _, _, _, _, _, _, _, _, _, _, _, _, _, _, _, _, _, _, _, _, _, _, _, _, _, _, _, _, _, _, _, _, _, _, _, _, _, _, _, _, _, _, _, _, _, _, _, _, _] rfl rfl gno rfl (fun b1_1 => ?_))
 refine RV.a rfl rfl ?_
 refine RV.nil (KV.then_n (KV.e1 0 (CV.ret ?_)))
 refine KV.sel [] [] rfl ?_
 exact KV.ret1 rfl rfl _ (fun _ h => h) ⟨⟨_, rfl⟩, rfl⟩

set_option maxRecDepth 100000 in
set_option maxHeartbeats 1000000 in
theorem idxFunc0_fn : FxP Tryz.prog 164 [.slice none 0 0, .func (.func 136) #[] #[]] (.int .i64 (-1)) := by
 refine Sv.FxP.body Tryz.func164 rfl T164 rfl ?_
 intro wp
 refine KV.e2 0 1 (CV.seq (CV.region ?_))
 refine RV.a rfl rfl ?_
 refine RV.nil (KV.then_n (KV.e2 0 1 (CV.seq (CV.seq (CV.region ?_)))))
 refine RV.m rfl rfl (RV.s (Step.lenSl Tryz.underlying85 rfl) rfl (RV.m rfl rfl ?_))
 refine RV.nil (KV.then_n (KV.e4 0 1 7 8 (CV.block (KV.e4 0 1 7 8 ?_))))
 refine CV.loop0 ⟨rfl, rfl, rfl, rfl, trivial⟩ (fun _ => ?_)
 refine CV.seq (CV.region ?_)
 refine RV.s (Step.lss rfl rfl) rfl ?_
 refine RV.nil (KV.then_n (KV.e5 0 1 7 8 9 (CV.seq (CV.cond_f rfl (CV.exit ?_)))))
 refine KV.then_exit (KV.then_exit (KV.block_hit (KV.then_n (KV.env [] trivial (CV.seq ?_)))))
 refine CV.region ?_
 refine RV.a rfl rfl ?_
 refine RV.nil (KV.then_n (KV.e1 4 (CV.ret ?_)))
 exact KV.retP1 rfl rfl rfl

set_option maxRecDepth 100000 in
set_option maxHeartbeats 1000000 in
theorem contFunc0_fn : FxP Tryz.prog 135 [.slice none 0 0, .func (.func 136) #[] #[]] (.bool false) := by
 refine Sv.FxP.body Tryz.func135 rfl T135 rfl ?_
 intro wp
 refine KV.e2 0 1 (CV.seq (CV.region ?_))
 refine RV.a rfl rfl ?_
 refine RV.nil (KV.then_n (KV.e2 0 1 (CV.seq (CV.region ?_))))
 refine RV.m rfl rfl (RV.m rfl rfl ?_)
 refine RV.op (OV.callP Tryz.func164 B164 N164 rfl (idxFunc0_fn) gno rfl ?_)
 refine RV.s (Step.geq rfl rfl) rfl (RV.a rfl rfl ?_)
 refine RV.nil (KV.then_n (KV.e1 4 (CV.ret ?_)))
 exact KV.retP1 rfl rfl rfl

set_option maxRecDepth 100000 in
set_option maxHeartbeats 1000000 in
theorem aligned0_fn : FxP Tryz.prog 101 [.slice none 0 0] (.bool true) := by
 refine Sv.FxP.body Tryz.func101 rfl T101 rfl ?_
 intro wp
 refine KV.e1 0 (CV.seq (CV.region ?_))
 refine RV.a rfl rfl ?_
 refine RV.nil (KV.then_n (KV.e1 0 (CV.seq (CV.region ?_))))
 refine RV.m rfl rfl ?_
 refine RV.op (OV.callP Tryz.func135 B135 N135 rfl (contFunc0_fn) gno rfl ?_)
 refine RV.s (Step.not rfl) rfl (RV.a rfl rfl ?_)
 refine RV.nil (KV.then_n (KV.e1 2 (CV.ret ?_)))
 exact KV.retP1 rfl rfl rfl

set_option maxRecDepth 100000 in
set_option maxHeartbeats 1000000 in
theorem devCheck0_fn : FxP Tryz.prog 139 [.slice none 0 0, .int .i64 0] (.int .i64 0) := by
 refine Sv.FxP.body Tryz.func139 rfl T139 rfl ?_
 intro wp
 refine KV.e2 0 1 (CV.seq (CV.region ?_))
 refine RV.a rfl rfl ?_
 refine RV.nil (KV.then_n (KV.e2 0 1 (CV.seq (CV.seq (CV.region ?_)))))
 refine RV.m rfl rfl (RV.s (Step.lenSl Tryz.underlying247 rfl) rfl (RV.s (Step.gtr rfl rfl) rfl (RV.m rfl rfl (RV.gw rfl (Step.move rfl) rfl (RV.gw rfl (Step.lss rfl rfl) rfl (RV.s (Step.pick_f rfl rfl) rfl (RV.m rfl rfl ?_)))))))
 refine RV.gw rfl (Step.move rfl) rfl (RV.gw rfl (Step.gtr rfl rfl) rfl (RV.s (Step.pick_f rfl rfl) rfl ?_))
 refine RV.nil (KV.then_n (KV.e3 0 1 17 (CV.cond_f rfl (CV.skip (KV.then_n ?_)))))
 refine KV.e2 0 1 (CV.seq (CV.seq (CV.region ?_)))
 refine RV.m rfl rfl (RV.s (Step.lenSl Tryz.underlying247 rfl) rfl (RV.m rfl rfl ?_))
 refine RV.nil (KV.then_n (KV.e4 1 18 19 20 (CV.block (KV.e4 1 18 19 20 ?_))))
 refine CV.loop0 ⟨rfl, rfl, rfl, rfl, trivial⟩ (fun _ => ?_)
 refine CV.seq (CV.region ?_)
 refine RV.s (Step.lss rfl rfl) rfl ?_
 refine RV.nil (KV.then_n (KV.e5 1 18 19 20 21 (CV.seq (CV.cond_f rfl (CV.exit ?_)))))
 refine KV.then_exit (KV.then_exit (KV.block_hit (KV.then_n (KV.env [] trivial (CV.seq ?_)))))
 refine CV.region ?_
 refine RV.a rfl rfl ?_
 refine RV.nil (KV.then_n (KV.e1 4 (CV.ret ?_)))
 exact KV.retP1 rfl rfl rfl

set_option maxRecDepth 100000 in
set_option maxHeartbeats 1000000 in
theorem linksOf0_fn : FxP Tryz.prog 106 [.slice none 0 0] (.slice none 0 0) := by
 refine Sv.FxP.body Tryz.func106 rfl T106 rfl ?_
 intro wp
 refine KV.e1 0 (CV.seq (CV.region ?_))
 refine RV.a rfl rfl ?_
 refine RV.nil (KV.then_n (KV.e1 0 (CV.seq (CV.region ?_))))
 refine RV.a rfl rfl ?_
 refine RV.nil (KV.then_n (KV.e2 0 3 (CV.seq (CV.seq (CV.region ?_)))))
 refine RV.m rfl rfl (RV.s (Step.lenSl Tryz.underlying83 rfl) rfl (RV.m rfl rfl ?_))
 refine RV.nil (KV.then_n (KV.e4 3 8 9 10 (CV.block (KV.e4 3 8 9 10 ?_))))
 refine CV.loop0 ⟨rfl, rfl, rfl, rfl, trivial⟩ (fun _ => ?_)
 refine CV.seq (CV.region ?_)
 refine RV.s (Step.lss rfl rfl) rfl ?_
 refine RV.nil (KV.then_n (KV.e5 3 8 9 10 11 (CV.seq (CV.cond_f rfl (CV.exit ?_)))))
 refine KV.then_exit (KV.then_exit (KV.block_hit (KV.then_n (KV.e1 3 (CV.seq ?_)))))
 refine CV.region ?_
 refine RV.m rfl rfl (RV.a rfl rfl ?_)
 refine RV.nil (KV.then_n (KV.e1 2 (CV.ret ?_)))
 exact KV.retP1 rfl rfl rfl

set_option maxRecDepth 100000 in
set_option maxHeartbeats 1000000 in
theorem cloneRail0_fn : FxP Tryz.prog 171 [.slice none 0 0] (.slice none 0 0) := by
 refine Sv.FxP.body Tryz.func171 rfl T171 rfl ?_
 intro wp
 refine KV.e1 0 (CV.seq (CV.region ?_))
 refine RV.a rfl rfl ?_
 refine RV.nil (KV.then_n (KV.e1 0 (CV.seq (CV.seq (CV.region ?_)))))
 refine RV.m rfl rfl (RV.s (Step.nilSl Tryz.underlying84 rfl rfl) rfl ?_)
 refine RV.nil (KV.then_n (KV.e2 0 4 (CV.cond_t rfl (CV.seq (CV.region ?_)))))
 refine RV.a rfl rfl ?_
 refine RV.nil (KV.then_n (KV.e1 2 (CV.ret (KV.then_ret ?_))))
 exact KV.retP1 rfl rfl rfl

set_option maxRecDepth 100000 in
set_option maxHeartbeats 1000000 in
theorem index0_fn (A : Option Addr) (c : Nat) : FxP Tryz.prog 173 [.slice A 0 c, .int .i64 0] (.int .i64 (-1)) := by
 refine Sv.FxP.body Tryz.func173 rfl T173 rfl ?_
 intro wp
 refine KV.e2 0 1 (CV.seq (CV.region ?_))
 refine RV.a rfl rfl ?_
 refine RV.nil (KV.then_n (KV.e2 0 1 (CV.seq (CV.seq (CV.region ?_)))))
 refine RV.m rfl rfl (RV.s (Step.lenSl Tryz.underlying48 rfl) rfl (RV.m rfl rfl ?_))
 refine RV.nil (KV.then_n (KV.e4 0 1 7 8 (CV.block (KV.e4 0 1 7 8 ?_))))
 refine CV.loop0 ⟨rfl, rfl, rfl, rfl, trivial⟩ (fun _ => ?_)
 refine CV.seq (CV.region ?_)
 refine RV.s (Step.lss rfl rfl) rfl ?_
 refine RV.nil (KV.then_n (KV.e5 0 1 7 8 9 (CV.seq (CV.cond_f rfl (CV.exit ?_)))))
 refine KV.then_exit (KV.then_exit (KV.block_hit (KV.then_n (KV.env [] trivial (CV.seq ?_)))))
 refine CV.region ?_
 refine RV.a rfl rfl ?_
 refine RV.nil (KV.then_n (KV.e1 4 (CV.ret ?_)))
 exact KV.retP1 rfl rfl rfl

set_option maxRecDepth 100000 in
set_option maxHeartbeats 1000000 in
theorem checkLinks0_fn {w : World} : Fx Tryz.prog 141 [.int .i64 0, .slice none 0 0] w [] no (fun v L => v = .int .i64 0 ∧ L = []) := by
 refine Sv.Fx.body Tryz.func141 rfl T141 rfl ?_
 intro I hro hI
 refine KV.e2 0 1 (CV.seq (CV.region ?_))
 refine RV.a rfl rfl ?_
 refine RV.nil (KV.then_n (KV.e2 0 1 (CV.seq (CV.seq (CV.region ?_)))))
 refine RV.m rfl rfl (RV.s (Step.lss rfl rfl) rfl (RV.m rfl rfl (RV.gw rfl (Step.move rfl) rfl (RV.gw rfl (Step.gtr rfl rfl) rfl (RV.s (Step.pick_f rfl rfl) rfl (RV.m rfl rfl (RV.gw rfl (Step.move rfl) rfl ?_)))))))
 refine RV.gw rfl (Step.lenSl Tryz.underlying262 rfl) rfl (RV.gw rfl (Step.gtr rfl rfl) rfl (RV.s (Step.pick_f rfl rfl) rfl ?_))
 refine RV.nil (KV.then_n (KV.e3 0 1 20 (CV.cond_f rfl (CV.skip (KV.then_n ?_)))))
 refine KV.e2 0 1 (CV.seq (CV.seq (CV.region ?_)))
 refine RV.m rfl rfl (RV.s (Step.lenSl Tryz.underlying262 rfl) rfl (RV.m rfl rfl ?_))
 refine RV.nil (KV.then_n (KV.e5 0 1 21 22 23 (CV.block (KV.e5 0 1 21 22 23 ?_))))
 refine CV.loop0 ⟨rfl, rfl, rfl, rfl, rfl, trivial⟩ (fun _ => ?_)
 refine CV.seq (CV.region ?_)
 refine RV.s (Step.lss rfl rfl) rfl ?_
 refine RV.nil (KV.then_n (KV.e6 0 1 21 22 23 24 (CV.seq (CV.cond_f rfl (CV.exit ?_)))))
 refine KV.then_exit (KV.then_exit (KV.block_hit (KV.then_n (KV.e1 1 (CV.seq ?_)))))
 refine CV.region ?_
 refine RV.m rfl rfl (RV.s (Step.lenSl Tryz.underlying262 rfl) rfl ?_)
 refine RV.op (OV.makeMap (κ := Unit) (ν := Unit) (fun _ => .int .i64 0) (fun _ => .bool false) Tryz.underlying368 rfl gno rfl (fun mb => ?_))
 refine RV.a rfl rfl ?_
 refine RV.nil (KV.then_n (KV.e2 1 7 (CV.seq (CV.seq (CV.region ?_)))))
 refine RV.m rfl rfl (RV.s (Step.lenSl Tryz.underlying262 rfl) rfl (RV.m rfl rfl ?_))
 refine RV.nil (KV.then_n (KV.e4 7 51 52 53 (CV.block (KV.e4 7 51 52 53 ?_))))
 refine CV.loop0 ⟨rfl, rfl, rfl, rfl, trivial⟩ (fun _ => ?_)
 refine CV.seq (CV.region ?_)
 refine RV.s (Step.lss rfl rfl) rfl ?_
 refine RV.nil (KV.then_n (KV.e5 7 51 52 53 54 (CV.seq (CV.cond_f rfl (CV.exit ?_)))))
 refine KV.then_exit (KV.then_exit (KV.block_hit (KV.then_n (KV.env [] trivial (CV.seq ?_)))))
 refine CV.region ?_
 refine RV.a rfl rfl ?_
 refine RV.nil (KV.then_n (KV.e1 4 (CV.ret ?_)))
 refine KV.sel [] [] rfl ?_
 exact KV.ret1 rfl rfl _ (fun _ h => h) ⟨rfl, rfl⟩

set_option maxRecDepth 100000 in
set_option maxHeartbeats 1000000 in
theorem neighbors0_fn {w : World} : Fx Tryz.prog 172 [.int .i64 0, .slice none 0 0, .bool true] w [] no (fun v L => (∃ A c, v = .slice A 0 c) ∧ L = []) := by
 refine Sv.Fx.body Tryz.func172 rfl T172 rfl ?_
 intro I hro hI
 refine KV.e3 0 1 2 (CV.seq (CV.region ?_))
 refine RV.a rfl rfl ?_
 refine RV.nil (KV.then_n (KV.e3 0 1 2 (CV.seq (CV.region ?_))))
 refine RV.m rfl rfl ?_
 refine RV.op (OV.make (K := nslK) (0) (0) (()) Tryz.underlying369 I48 rfl rfl rfl rfl rfl (by omega) (by omega) (by omega) gno rfl (fun b1_1 => ?_))
 refine RV.a rfl rfl ?_
 refine RV.nil (KV.then_n (KV.e3 1 2 7 (CV.seq (CV.seq (CV.region ?_)))))
 refine RV.m rfl rfl (RV.s (Step.lenSl Tryz.underlying262 rfl) rfl (RV.m rfl rfl ?_))
 refine RV.nil (KV.then_n (KV.e5 2 7 12 13 14 (CV.block (KV.e5 2 7 12 13 14 ?_))))
 refine CV.loop0 ⟨rfl, rfl, rfl, rfl, rfl, trivial⟩ (fun _ => ?_)
 refine CV.seq (CV.region ?_)
 refine RV.s (Step.lss rfl rfl) rfl ?_
 refine RV.nil (KV.then_n (KV.e6 2 7 12 13 14 15 (CV.seq (CV.cond_f rfl (CV.exit ?_)))))
 refine KV.then_exit (KV.then_exit (KV.block_hit (KV.then_n (KV.e1 7 (CV.seq ?_)))))
 refine CV.region ?_
 refine RV.m rfl rfl (RV.a rfl rfl ?_)
 refine RV.nil (KV.then_n (KV.e1 6 (CV.ret ?_)))
 refine KV.sel [] [] rfl ?_
 exact KV.ret1 rfl rfl _ (fun _ h => h) ⟨⟨_, _, rfl⟩, rfl⟩

set_option maxRecDepth 100000 in
set_option maxHeartbeats 1000000 in
theorem sequence0_fn {w : World} : Fx Tryz.prog 142 [.int .i64 0, .slice none 0 0] w [] no (fun v L => ∃ A c, v = .slice A 0 c ∧ L = []) := by
 refine Sv.Fx.body Tryz.func142 rfl T142 rfl ?_
 intro I hro hI
 refine KV.e2 0 1 (CV.seq (CV.region ?_))
 refine RV.a rfl rfl ?_
 refine RV.nil (KV.then_n (KV.e2 0 1 (CV.seq (CV.region ?_))))
 refine RV.m rfl rfl (RV.m rfl rfl ?_)
 refine RV.op (OV.call [] (F := []) Tryz.func172 B172 N172 rfl rfl (fun w h => neighbors0_fn) (fun _ hb => hb.elim) gno rfl (fun v L' hp => ?_))
 obtain ⟨⟨An, cn, rfl⟩, rfl⟩ := hp
 simp only [List.append_nil]
 refine RV.a rfl rfl ?_
 refine RV.nil (KV.then_n (KV.e3 0 1 5 (CV.seq (CV.region ?_))))
 refine RV.m rfl rfl ?_
 refine RV.op (OV.make (K := (intK .i64)) (0) (0) (0) Tryz.underlying48 I3 rfl rfl rfl rfl rfl (by omega) (by omega) (by omega) gno rfl (fun b2_1 => ?_))
 refine RV.a rfl rfl ?_
 refine RV.nil (KV.then_n (KV.e4 0 1 5 6 (CV.seq (CV.seq (CV.region ?_)))))
 refine RV.m rfl rfl (RV.s (Step.lenSl Tryz.underlying262 rfl) rfl (RV.m rfl rfl ?_))
 refine RV.nil (KV.then_n (KV.e6 0 5 6 18 19 20 (CV.block (KV.e6 0 5 6 18 19 20 ?_))))
 refine CV.loop0 ⟨rfl, rfl, rfl, rfl, rfl, rfl, trivial⟩ (fun _ => ?_)
 refine CV.seq (CV.region ?_)
 refine RV.s (Step.lss rfl rfl) rfl ?_
 refine RV.nil (KV.then_n (KV.e7 0 5 6 18 19 20 21 (CV.seq (CV.cond_f rfl (CV.exit ?_)))))
 refine KV.then_exit (KV.then_exit (KV.block_hit (KV.then_n (KV.e3 0 5 6 (CV.seq ?_)))))
 refine CV.region ?_
 refine RV.m rfl rfl ?_
 refine RV.op (OV.make (K := (intK .i64)) (0) (0) (0) Tryz.underlying48 I3 rfl rfl rfl rfl rfl (by omega) (by omega) (by omega) gno rfl (fun b8_1 => ?_))
 refine RV.a rfl rfl ?_
 refine RV.nil (KV.then_n (KV.e3 5 6 9 (CV.block (KV.e3 5 6 9 ?_))))
 refine CV.loop0 ⟨rfl, rfl, rfl, trivial⟩ (fun _ => ?_)
 refine CV.block (CV.seq (CV.region ?_))
 refine RV.m rfl rfl ?_
 refine RV.op (OV.callP Tryz.func173 B173 N173 rfl (index0_fn _ _) gno rfl ?_)
 refine RV.a rfl rfl ?_
 refine RV.nil (KV.then_n (KV.e4 5 6 9 10 (CV.seq (CV.seq (CV.region ?_)))))
 refine RV.m rfl rfl (RV.s (Step.lss rfl rfl) rfl ?_)
 refine RV.nil (KV.then_n (KV.e5 5 6 9 10 37 (CV.cond_t rfl (CV.seq (CV.region ?_)))))
 refine RV.m rfl rfl (RV.a rfl rfl ?_)
 refine RV.nil (KV.then_n (KV.e1 4 (CV.ret (KV.then_ret (KV.block_ret ?_)))))
 refine KV.then_ret (KV.block_ret ?_)
 refine KV.sel [] [] rfl ?_
 exact KV.ret1 rfl rfl _ (fun _ h => h) ⟨_, _, rfl, rfl⟩

set_option maxRecDepth 100000 in
set_option maxHeartbeats 1000000 in
theorem order0_fn {w : World} : Fx Tryz.prog 105 [.int .i64 0, .slice none 0 0] w [] no (fun v L => ∃ A c, v = .tuple #[.slice A 0 c, .int .i64 0] ∧ L = []) := by
 refine Sv.Fx.body Tryz.func105 rfl T105 rfl ?_
 intro I hro hI
 refine KV.e2 0 1 (CV.seq (CV.region ?_))
 refine RV.a rfl rfl (RV.a rfl rfl ?_)
 refine RV.nil (KV.then_n (KV.e2 0 1 (CV.seq (CV.seq (CV.region ?_)))))
 refine RV.m rfl rfl (RV.m rfl rfl ?_)
 refine RV.op (OV.call [] (F := []) Tryz.func141 B141 N141 rfl rfl (fun w h => checkLinks0_fn) (fun _ hb => hb.elim) gno rfl (fun v L' hp => ?_))
 obtain ⟨rfl, rfl⟩ := hp
 simp only [List.append_nil]
 refine RV.a rfl rfl ?_
 refine RV.nil (KV.then_n (KV.e3 0 1 6 (CV.seq (CV.region ?_))))
 refine RV.m rfl rfl (RV.s (Step.neq rfl rfl) rfl ?_)
 refine RV.nil (KV.then_n (KV.e4 0 1 6 12 (CV.cond_f rfl (CV.skip (KV.then_n ?_)))))
 refine KV.e2 0 1 (CV.seq (CV.region ?_))
 refine RV.m rfl rfl (RV.m rfl rfl ?_)
 refine RV.op (OV.call [] (F := []) Tryz.func142 B142 N142 rfl rfl (fun w h => sequence0_fn) (fun _ hb => hb.elim) gno rfl (fun v L' hp => ?_))
 obtain ⟨Aq, Aqc, rfl, rfl⟩ := hp
 simp only [List.append_nil]
 refine RV.a rfl rfl ?_
 refine RV.nil (KV.then_n (KV.e2 0 7 (CV.seq (CV.seq (CV.region ?_)))))
 refine RV.m rfl rfl (RV.s (Step.lenSl Tryz.underlying48 rfl) rfl (RV.m rfl rfl (RV.s (Step.neq rfl rfl) rfl ?_)))
 refine RV.nil (KV.then_n (KV.e2 7 20 (CV.cond_f rfl (CV.skip (KV.then_n ?_)))))
 refine KV.e1 7 (CV.seq (CV.region ?_))
 refine RV.m rfl rfl (RV.a rfl rfl (RV.a rfl rfl ?_))
 refine RV.nil (KV.then_n (KV.e2 4 5 (CV.ret ?_)))
 refine KV.sel [] [] rfl ?_
 exact KV.ret2 rfl rfl rfl _ (fun _ h => h) ⟨_, _, rfl, rfl⟩

set_option maxRecDepth 100000 in
set_option maxHeartbeats 1000000 in
theorem dgCheck0_fn {w : World} : Fx Tryz.prog 170 [.int .i64 0, .slice none 0 0] w [] no (fun v L => v = .int .i64 0 ∧ L = []) := by
 refine Sv.Fx.body Tryz.func170 rfl T170 rfl ?_
 intro I hro hI
 refine KV.e2 0 1 (CV.seq (CV.region ?_))
 refine RV.a rfl rfl ?_
 refine RV.nil (KV.then_n (KV.e2 0 1 (CV.seq (CV.seq (CV.region ?_)))))
 refine RV.m rfl rfl (RV.m rfl rfl ?_)
 refine RV.op (OV.call [] (F := []) Tryz.func141 B141 N141 rfl rfl (fun w h => checkLinks0_fn) (fun _ hb => hb.elim) gno rfl (fun v L' hp => ?_))
 obtain ⟨rfl, rfl⟩ := hp
 simp only [List.append_nil]
 refine RV.a rfl rfl ?_
 refine RV.nil (KV.then_n (KV.e3 0 1 5 (CV.seq (CV.region ?_))))
 refine RV.m rfl rfl (RV.s (Step.neq rfl rfl) rfl ?_)
 refine RV.nil (KV.then_n (KV.e4 0 1 5 10 (CV.cond_f rfl (CV.skip (KV.then_n ?_)))))
 refine KV.e2 0 1 (CV.seq (CV.seq (CV.region ?_)))
 refine RV.m rfl rfl (RV.m rfl rfl ?_)
 refine RV.op (OV.call [] (F := []) Tryz.func142 B142 N142 rfl rfl (fun w h => sequence0_fn) (fun _ hb => hb.elim) gno rfl (fun v L' hp => ?_))
 obtain ⟨Aq, Aqc, rfl, rfl⟩ := hp
 simp only [List.append_nil]
 refine RV.s (Step.lenSl Tryz.underlying48 rfl) rfl (RV.m rfl rfl (RV.s (Step.neq rfl rfl) rfl ?_))
 refine RV.nil (KV.then_n (KV.e1 17 (CV.cond_f rfl (CV.skip (KV.then_n ?_)))))
 refine KV.env [] trivial (CV.seq (CV.region ?_))
 refine RV.a rfl rfl ?_
 refine RV.nil (KV.then_n (KV.e1 4 (CV.ret ?_)))
 refine KV.sel [] [] rfl ?_
 exact KV.ret1 rfl rfl _ (fun _ h => h) ⟨rfl, rfl⟩

set_option maxRecDepth 100000 in
set_option maxHeartbeats 1000000 in
theorem railsNew0_fn {w : World} : Fx Tryz.prog 140 [.slice none 0 0] w [] no (fun v L => (∃ b, v = .tuple #[.pointer (some ⟨b, 0, none⟩), .int .i64 0]) ∧ L = []) := by
 refine Sv.Fx.body Tryz.func140 rfl T140 rfl ?_
 intro I hro hI
 refine KV.e1 0 (CV.seq (CV.region ?_))
 refine RV.a rfl rfl (RV.a rfl rfl ?_)
 refine RV.nil (KV.then_n (KV.e1 0 (CV.seq (CV.seq (CV.region ?_)))))
 refine RV.m rfl rfl (RV.s (Step.lenSl Tryz.underlying84 rfl) rfl (RV.s (Step.gtr rfl rfl) rfl ?_))
 refine RV.nil (KV.then_n (KV.e2 0 10 (CV.cond_f rfl (CV.skip (KV.then_n ?_)))))
 refine KV.e1 0 (CV.seq (CV.region ?_))
 refine RV.a rfl rfl ?_
 refine RV.nil (KV.then_n (KV.e2 0 4 (CV.seq (CV.seq (CV.region ?_)))))
 refine RV.m rfl rfl (RV.s (Step.lenSl Tryz.underlying84 rfl) rfl (RV.m rfl rfl ?_))
 refine RV.nil (KV.then_n (KV.e5 0 4 11 12 13 (CV.block (KV.e5 0 4 11 12 13 ?_))))
 refine CV.loop0 ⟨rfl, rfl, rfl, rfl, rfl, trivial⟩ (fun _ => ?_)
 refine CV.seq (CV.region ?_)
 refine RV.s (Step.lss rfl rfl) rfl ?_
 refine RV.nil (KV.then_n (KV.e6 0 4 11 12 13 14 (CV.seq (CV.cond_f rfl (CV.exit ?_)))))
 refine KV.then_exit (KV.then_exit (KV.block_hit (KV.then_n (KV.e2 0 4 (CV.seq ?_)))))
 refine CV.seq (CV.region ?_)
 refine RV.m rfl rfl (RV.s (Step.lenSl Tryz.underlying84 rfl) rfl (RV.m rfl rfl ?_))
 refine RV.op (OV.call [] (F := []) Tryz.func170 B170 N170 rfl rfl (fun w h => dgCheck0_fn) (fun _ hb => hb.elim) gno rfl (fun v L' hp => ?_))
 obtain ⟨rfl, rfl⟩ := hp
 simp only [List.append_nil]
 refine RV.a rfl rfl ?_
 refine RV.nil (KV.then_n (KV.e2 0 7 (CV.seq (CV.region ?_))))
 refine RV.m rfl rfl (RV.s (Step.neq rfl rfl) rfl ?_)
 refine RV.nil (KV.then_n (KV.e3 0 7 54 (CV.cond_f rfl (CV.skip (KV.then_n ?_)))))
 refine KV.e1 0 (CV.seq ?_)
 refine CV.any (Hp I w []) (by kernel_rfl) (fun _ h => h.drew) 12 rfl ?_
 refine AV.u 0 (bl 12 1) rfl gno (Step.move rfl) rfl (fun _ h => h.sel [] rfl) ?_
 refine AV.u 2 (bl 12 5) rfl gno (Step.move rfl) rfl (fun _ h => h.sel [] rfl) ?_
 refine AV.u 3 (bl 12 13) rfl gno (Step.lenSl Tryz.underlying84 rfl) rfl (fun _ h => h.sel [] rfl) ?_
 refine AV.u 5 (bl 12 45) rfl gno (Step.move rfl) rfl (fun _ h => h.sel [] rfl) ?_
 refine AV.u 6 (bl 12 109) rfl gno (Step.lenSl Tryz.underlying84 rfl) rfl (fun _ h => h.sel [] rfl) ?_
 refine AV.all [1, 4, 7] (by kernel_rfl) (by decide) ?_
 refine ⟨⟨_, rfl, ?_⟩, ⟨⟨_, rfl, ?_⟩, ⟨⟨_, rfl, ?_⟩, trivial⟩⟩⟩
 ·
  refine OV.callP Tryz.func171 B171 N171 rfl (cloneRail0_fn) gno rfl ?_
  refine AV.next (bl 12 111) (by kernel_rfl) (fun _ h => h.sel [] rfl) ?_
  refine AV.all [4, 7] (by kernel_rfl) (by decide) ?_
  refine ⟨⟨_, rfl, ?_⟩, ⟨⟨_, rfl, ?_⟩, trivial⟩⟩
  ·
   refine OV.make (K := (intK .i64)) (0) (0) (0) Tryz.underlying48 I3 rfl rfl rfl rfl rfl (by omega) (by omega) (by omega) gno rfl (fun b15_4 => ?_)
   refine AV.next (bl 12 127) (by kernel_rfl) (fun _ h => h.sel [] rfl) ?_
   refine AV.all [7] (by kernel_rfl) (by decide) ?_
   refine ⟨⟨_, rfl, ?_⟩, trivial⟩
   ·
    refine OV.make (K := (intK .u64)) (0) (0) (0) Tryz.underlying85 I24 rfl rfl rfl rfl rfl (by omega) (by omega) (by omega) gno rfl (fun b15_7 => ?_)
    refine AV.next (bl 12 255) (by kernel_rfl) (fun _ h => h.sel [] rfl) ?_
    refine AV.u 8 (bl 12 511) rfl gno (Step.build rfl (Bd367_0_1_2 _ _ _ _ _ _ _ _ _)) rfl (fun _ h => h.sel [] rfl) ?_
    refine AV.all [9] (by kernel_rfl) (by decide) ?_
    refine ⟨⟨_, rfl, ?_⟩, trivial⟩
    ·
     refine OV.box (t := 367) #[_, _, _, _] rfl rfl gno rfl (fun b15_9 => ?_)
     refine AV.next (bl 12 1023) (by kernel_rfl) (fun _ h => h.sel [] rfl) ?_
     refine AV.u 10 (bl 12 2047) rfl gno (Step.assign rfl) rfl (fun _ h => h.sel [] rfl) ?_
     refine AV.u 11 (bl 12 4095) rfl gno (Step.assign rfl) rfl (fun _ h => h.sel [] rfl) ?_
     refine AV.done (by kernel_rfl) ?_
     refine KV.then_n (KV.e2 2 3 (CV.ret ?_))
     refine KV.sel [] [] rfl ?_
     exact KV.ret2 rfl rfl rfl _ (fun _ h => h) ⟨⟨_, rfl⟩, rfl⟩
  ·
   refine OV.make (K := (intK .u64)) (0) (0) (0) Tryz.underlying85 I24 rfl rfl rfl rfl rfl (by omega) (by omega) (by omega) gno rfl (fun b15_7 => ?_)
   refine AV.next (bl 12 239) (by kernel_rfl) (fun _ h => h.sel [] rfl) ?_
   refine AV.all [4] (by kernel_rfl) (by decide) ?_
   refine ⟨⟨_, rfl, ?_⟩, trivial⟩
   ·
    refine OV.make (K := (intK .i64)) (0) (0) (0) Tryz.underlying48 I3 rfl rfl rfl rfl rfl (by omega) (by omega) (by omega) gno rfl (fun b15_4 => ?_)
    refine AV.next (bl 12 255) (by kernel_rfl) (fun _ h => h.sel [] rfl) ?_
    refine AV.u 8 (bl 12 511) rfl gno (Step.build rfl (Bd367_0_1_2 _ _ _ _ _ _ _ _ _)) rfl (fun _ h => h.sel [] rfl) ?_
    refine AV.all [9] (by kernel_rfl) (by decide) ?_
    refine ⟨⟨_, rfl, ?_⟩, trivial⟩
    ·
     refine OV.box (t := 367) #[_, _, _, _] rfl rfl gno rfl (fun b15_9 => ?_)
     refine AV.next (bl 12 1023) (by kernel_rfl) (fun _ h => h.sel [] rfl) ?_
     refine AV.u 10 (bl 12 2047) rfl gno (Step.assign rfl) rfl (fun _ h => h.sel [] rfl) ?_
     refine AV.u 11 (bl 12 4095) rfl gno (Step.assign rfl) rfl (fun _ h => h.sel [] rfl) ?_
     refine AV.done (by kernel_rfl) ?_
     refine KV.then_n (KV.e2 2 3 (CV.ret ?_))
     refine KV.sel [] [] rfl ?_
     exact KV.ret2 rfl rfl rfl _ (fun _ h => h) ⟨⟨_, rfl⟩, rfl⟩
 ·
  refine OV.make (K := (intK .i64)) (0) (0) (0) Tryz.underlying48 I3 rfl rfl rfl rfl rfl (by omega) (by omega) (by omega) gno rfl (fun b15_4 => ?_)
  refine AV.next (bl 12 125) (by kernel_rfl) (fun _ h => h.sel [] rfl) ?_
  refine AV.all [1, 7] (by kernel_rfl) (by decide) ?_
  refine ⟨⟨_, rfl, ?_⟩, ⟨⟨_, rfl, ?_⟩, trivial⟩⟩
  ·
   refine OV.callP Tryz.func171 B171 N171 rfl (cloneRail0_fn) gno rfl ?_
   refine AV.next (bl 12 127) (by kernel_rfl) (fun _ h => h.sel [] rfl) ?_
   refine AV.all [7] (by kernel_rfl) (by decide) ?_
   refine ⟨⟨_, rfl, ?_⟩, trivial⟩
   ·
    refine OV.make (K := (intK .u64)) (0) (0) (0) Tryz.underlying85 I24 rfl rfl rfl rfl rfl (by omega) (by omega) (by omega) gno rfl (fun b15_7 => ?_)
    refine AV.next (bl 12 255) (by kernel_rfl) (fun _ h => h.sel [] rfl) ?_
    refine AV.u 8 (bl 12 511) rfl gno (Step.build rfl (Bd367_0_1_2 _ _ _ _ _ _ _ _ _)) rfl (fun _ h => h.sel [] rfl) ?_
    refine AV.all [9] (by kernel_rfl) (by decide) ?_
    refine ⟨⟨_, rfl, ?_⟩, trivial⟩
    ·
     refine OV.box (t := 367) #[_, _, _, _] rfl rfl gno rfl (fun b15_9 => ?_)
     refine AV.next (bl 12 1023) (by kernel_rfl) (fun _ h => h.sel [] rfl) ?_
     refine AV.u 10 (bl 12 2047) rfl gno (Step.assign rfl) rfl (fun _ h => h.sel [] rfl) ?_
     refine AV.u 11 (bl 12 4095) rfl gno (Step.assign rfl) rfl (fun _ h => h.sel [] rfl) ?_
     refine AV.done (by kernel_rfl) ?_
     refine KV.then_n (KV.e2 2 3 (CV.ret ?_))
     refine KV.sel [] [] rfl ?_
     exact KV.ret2 rfl rfl rfl _ (fun _ h => h) ⟨⟨_, rfl⟩, rfl⟩
  ·
   refine OV.make (K := (intK .u64)) (0) (0) (0) Tryz.underlying85 I24 rfl rfl rfl rfl rfl (by omega) (by omega) (by omega) gno rfl (fun b15_7 => ?_)
   refine AV.next (bl 12 253) (by kernel_rfl) (fun _ h => h.sel [] rfl) ?_
   refine AV.all [1] (by kernel_rfl) (by decide) ?_
   refine ⟨⟨_, rfl, ?_⟩, trivial⟩
   ·
    refine OV.callP Tryz.func171 B171 N171 rfl (cloneRail0_fn) gno rfl ?_
    refine AV.next (bl 12 255) (by kernel_rfl) (fun _ h => h.sel [] rfl) ?_
    refine AV.u 8 (bl 12 511) rfl gno (Step.build rfl (Bd367_0_1_2 _ _ _ _ _ _ _ _ _)) rfl (fun _ h => h.sel [] rfl) ?_
    refine AV.all [9] (by kernel_rfl) (by decide) ?_
    refine ⟨⟨_, rfl, ?_⟩, trivial⟩
    ·
     refine OV.box (t := 367) #[_, _, _, _] rfl rfl gno rfl (fun b15_9 => ?_)
     refine AV.next (bl 12 1023) (by kernel_rfl) (fun _ h => h.sel [] rfl) ?_
     refine AV.u 10 (bl 12 2047) rfl gno (Step.assign rfl) rfl (fun _ h => h.sel [] rfl) ?_
     refine AV.u 11 (bl 12 4095) rfl gno (Step.assign rfl) rfl (fun _ h => h.sel [] rfl) ?_
     refine AV.done (by kernel_rfl) ?_
     refine KV.then_n (KV.e2 2 3 (CV.ret ?_))
     refine KV.sel [] [] rfl ?_
     exact KV.ret2 rfl rfl rfl _ (fun _ h => h) ⟨⟨_, rfl⟩, rfl⟩
 ·
  refine OV.make (K := (intK .u64)) (0) (0) (0) Tryz.underlying85 I24 rfl rfl rfl rfl rfl (by omega) (by omega) (by omega) gno rfl (fun b15_7 => ?_)
  refine AV.next (bl 12 237) (by kernel_rfl) (fun _ h => h.sel [] rfl) ?_
  refine AV.all [1, 4] (by kernel_rfl) (by decide) ?_
  refine ⟨⟨_, rfl, ?_⟩, ⟨⟨_, rfl, ?_⟩, trivial⟩⟩
  ·
   refine OV.callP Tryz.func171 B171 N171 rfl (cloneRail0_fn) gno rfl ?_
   refine AV.next (bl 12 239) (by kernel_rfl) (fun _ h => h.sel [] rfl) ?_
   refine AV.all [4] (by kernel_rfl) (by decide) ?_
   refine ⟨⟨_, rfl, ?_⟩, trivial⟩
   ·
    refine OV.make (K := (intK .i64)) (0) (0) (0) Tryz.underlying48 I3 rfl rfl rfl rfl rfl (by omega) (by omega) (by omega) gno rfl (fun b15_4 => ?_)
    refine AV.next (bl 12 255) (by kernel_rfl) (fun _ h => h.sel [] rfl) ?_
    refine AV.u 8 (bl 12 511) rfl gno (Step.build rfl (Bd367_0_1_2 _ _ _ _ _ _ _ _ _)) rfl (fun _ h => h.sel [] rfl) ?_
    refine AV.all [9] (by kernel_rfl) (by decide) ?_
    refine ⟨⟨_, rfl, ?_⟩, trivial⟩
    ·
     refine OV.box (t := 367) #[_, _, _, _] rfl rfl gno rfl (fun b15_9 => ?_)
     refine AV.next (bl 12 1023) (by kernel_rfl) (fun _ h => h.sel [] rfl) ?_
     refine AV.u 10 (bl 12 2047) rfl gno (Step.assign rfl) rfl (fun _ h => h.sel [] rfl) ?_
     refine AV.u 11 (bl 12 4095) rfl gno (Step.assign rfl) rfl (fun _ h => h.sel [] rfl) ?_
     refine AV.done (by kernel_rfl) ?_
     refine KV.then_n (KV.e2 2 3 (CV.ret ?_))
     refine KV.sel [] [] rfl ?_
     exact KV.ret2 rfl rfl rfl _ (fun _ h => h) ⟨⟨_, rfl⟩, rfl⟩
  ·
   refine OV.make (K := (intK .i64)) (0) (0) (0) Tryz.underlying48 I3 rfl rfl rfl rfl rfl (by omega) (by omega) (by omega) gno rfl (fun b15_4 => ?_)
   refine AV.next (bl 12 253) (by kernel_rfl) (fun _ h => h.sel [] rfl) ?_
   refine AV.all [1] (by kernel_rfl) (by decide) ?_
   refine ⟨⟨_, rfl, ?_⟩, trivial⟩
   ·
    refine OV.callP Tryz.func171 B171 N171 rfl (cloneRail0_fn) gno rfl ?_
    refine AV.next (bl 12 255) (by kernel_rfl) (fun _ h => h.sel [] rfl) ?_
    refine AV.u 8 (bl 12 511) rfl gno (Step.build rfl (Bd367_0_1_2 _ _ _ _ _ _ _ _ _)) rfl (fun _ h => h.sel [] rfl) ?_
    refine AV.all [9] (by kernel_rfl) (by decide) ?_
    refine ⟨⟨_, rfl, ?_⟩, trivial⟩
    ·
     refine OV.box (t := 367) #[_, _, _, _] rfl rfl gno rfl (fun b15_9 => ?_)
     refine AV.next (bl 12 1023) (by kernel_rfl) (fun _ h => h.sel [] rfl) ?_
     refine AV.u 10 (bl 12 2047) rfl gno (Step.assign rfl) rfl (fun _ h => h.sel [] rfl) ?_
     refine AV.u 11 (bl 12 4095) rfl gno (Step.assign rfl) rfl (fun _ h => h.sel [] rfl) ?_
     refine AV.done (by kernel_rfl) ?_
     refine KV.then_n (KV.e2 2 3 (CV.ret ?_))
     refine KV.sel [] [] rfl ?_
     exact KV.ret2 rfl rfl rfl _ (fun _ h => h) ⟨⟨_, rfl⟩, rfl⟩

set_option maxRecDepth 100000 in
set_option maxHeartbeats 1000000 in
theorem devNew0_fn {w : World} : Fx Tryz.prog 103 [.slice none 0 0, .slice none 0 0] w [] no (fun v L => (∃ b, v = .tuple #[.pointer (some ⟨b, 0, none⟩), .int .i64 0]) ∧ L = []) := by
 refine Sv.Fx.body Tryz.func103 rfl T103 rfl ?_
 intro I hro hI
 refine KV.e2 0 1 (CV.seq (CV.region ?_))
 refine RV.a rfl rfl (RV.a rfl rfl ?_)
 refine RV.nil (KV.then_n (KV.e2 0 1 (CV.seq (CV.seq (CV.region ?_)))))
 refine RV.m rfl rfl (RV.m rfl rfl (RV.s (Step.lenSl Tryz.underlying84 rfl) rfl ?_))
 refine RV.op (OV.callP Tryz.func139 B139 N139 rfl (devCheck0_fn) gno rfl ?_)
 refine RV.a rfl rfl ?_
 refine RV.nil (KV.then_n (KV.e3 0 1 6 (CV.seq (CV.region ?_))))
 refine RV.m rfl rfl (RV.s (Step.neq rfl rfl) rfl ?_)
 refine RV.nil (KV.then_n (KV.e4 0 1 6 18 (CV.cond_f rfl (CV.skip (KV.then_n ?_)))))
 refine KV.e2 0 1 (CV.seq (CV.region ?_))
 refine RV.m rfl rfl ?_
 refine RV.op (OV.call [] (F := []) Tryz.func140 B140 N140 rfl rfl (fun w h => railsNew0_fn) (fun _ hb => hb.elim) gno rfl (fun v L' hp => ?_))
 obtain ⟨⟨br, rfl⟩, rfl⟩ := hp
 simp only [List.append_nil]
 refine RV.m rfl rfl (RV.s (Step.extract0 rfl rfl) rfl (RV.s (Step.extract0 rfl rfl) rfl (RV.a rfl rfl (RV.a rfl rfl ?_))))
 refine RV.nil (KV.then_n (KV.e3 0 7 8 (CV.seq (CV.seq (CV.region ?_)))))
 refine RV.m rfl rfl (RV.s (Step.neq rfl rfl) rfl ?_)
 refine RV.nil (KV.then_n (KV.e4 0 7 8 26 (CV.cond_f rfl (CV.skip (KV.then_n ?_)))))
 refine KV.e2 0 7 (CV.seq (CV.region ?_))
 refine RV.m rfl rfl (RV.s (Step.build rfl (Bd313_2 _)) rfl ?_)
 refine RV.op (OV.box (t := 313) #[_, _, _, _] rfl rfl gno rfl (fun b7_2 => ?_))
 refine RV.a rfl rfl ?_
 refine RV.nil (KV.then_n (KV.e2 0 9 (CV.seq (CV.seq (CV.region ?_)))))
 refine RV.m rfl rfl (RV.s (Step.lenSl Tryz.underlying247 rfl) rfl (RV.m rfl rfl ?_))
 refine RV.nil (KV.then_n (KV.e4 9 31 32 33 (CV.block (KV.e4 9 31 32 33 ?_))))
 refine CV.loop0 ⟨rfl, rfl, rfl, rfl, trivial⟩ (fun _ => ?_)
 refine CV.seq (CV.region ?_)
 refine RV.s (Step.lss rfl rfl) rfl ?_
 refine RV.nil (KV.then_n (KV.e5 9 31 32 33 34 (CV.seq (CV.cond_f rfl (CV.exit ?_)))))
 refine KV.then_exit (KV.then_exit (KV.block_hit (KV.then_n (KV.e1 9 (CV.seq ?_)))))
 refine CV.region ?_
 refine RV.m rfl rfl (RV.a rfl rfl (RV.a rfl rfl ?_))
 refine RV.nil (KV.then_n (KV.e2 4 5 (CV.ret ?_)))
 refine KV.sel [] [] rfl ?_
 exact KV.ret2 rfl rfl rfl _ (fun _ h => h) ⟨⟨_, rfl⟩, rfl⟩

def stK : Enc Unit where
 f _ := [.slice none 0 0, .slice none 0 0, .int .u64 0, .bool false, .int .i64 0, .int .u64 0]
 sz := 6
 d := ()
 len _ := rfl
 pos := by decide
 one r v hv := by simp at hv; (repeat' (rcases hv with rfl | hv)); all_goals first | rfl | (subst hv; rfl)

set_option maxRecDepth 100000 in
set_option maxHeartbeats 1000000 in
theorem rpmNew0_fn {w : World} : Fx Tryz.prog 104 [.slice none 0 0] w [] no (fun v L => (∃ b, v = .tuple #[.pointer (some ⟨b, 0, none⟩), .int .i64 0]) ∧ L = []) := by
 refine Sv.Fx.body Tryz.func104 rfl T104 rfl ?_
 intro I hro hI
 refine KV.e1 0 (CV.seq (CV.region ?_))
 refine RV.a rfl rfl (RV.a rfl rfl ?_)
 refine RV.nil (KV.then_n (KV.e1 0 (CV.seq (CV.seq (CV.region ?_)))))
 refine RV.m rfl rfl (RV.s (Step.lenSl Tryz.underlying248 rfl) rfl (RV.s (Step.gtr rfl rfl) rfl ?_))
 refine RV.nil (KV.then_n (KV.e2 0 21 (CV.cond_f rfl (CV.skip (KV.then_n ?_)))))
 refine KV.e1 0 (CV.seq (CV.region ?_))
 refine RV.a rfl rfl ?_
 refine RV.nil (KV.then_n (KV.e2 0 4 (CV.seq (CV.seq (CV.region ?_)))))
 refine RV.m rfl rfl (RV.s (Step.lenSl Tryz.underlying248 rfl) rfl (RV.m rfl rfl ?_))
 refine RV.nil (KV.then_n (KV.e5 0 4 22 23 24 (CV.block (KV.e5 0 4 22 23 24 ?_))))
 refine CV.loop0 ⟨rfl, rfl, rfl, rfl, rfl, trivial⟩ (fun _ => ?_)
 refine CV.seq (CV.region ?_)
 refine RV.s (Step.lss rfl rfl) rfl ?_
 refine RV.nil (KV.then_n (KV.e6 0 4 22 23 24 25 (CV.seq (CV.cond_f rfl (CV.exit ?_)))))
 refine KV.then_exit (KV.then_exit (KV.block_hit (KV.then_n (KV.e2 0 4 (CV.seq ?_)))))
 refine CV.seq (CV.region ?_)
 refine RV.m rfl rfl (RV.s (Step.gtr rfl rfl) rfl ?_)
 refine RV.nil (KV.then_n (KV.e2 0 61 (CV.cond_f rfl (CV.skip (KV.then_n ?_)))))
 refine KV.e1 0 (CV.seq (CV.region ?_))
 refine RV.a rfl rfl ?_
 refine RV.nil (KV.then_n (KV.e2 0 7 (CV.seq (CV.seq (CV.region ?_)))))
 refine RV.m rfl rfl (RV.s (Step.lenSl Tryz.underlying248 rfl) rfl (RV.m rfl rfl ?_))
 refine RV.nil (KV.then_n (KV.e5 0 7 62 63 64 (CV.block (KV.e5 0 7 62 63 64 ?_))))
 refine CV.loop0 ⟨rfl, rfl, rfl, rfl, rfl, trivial⟩ (fun _ => ?_)
 refine CV.seq (CV.region ?_)
 refine RV.s (Step.lss rfl rfl) rfl ?_
 refine RV.nil (KV.then_n (KV.e6 0 7 62 63 64 65 (CV.seq (CV.cond_f rfl (CV.exit ?_)))))
 refine KV.then_exit (KV.then_exit (KV.block_hit (KV.then_n (KV.e2 0 7 (CV.seq ?_)))))
 refine CV.region ?_
 refine RV.m rfl rfl (RV.s (Step.lenSl Tryz.underlying248 rfl) rfl (RV.m rfl rfl ?_))
 refine RV.op (OV.call [] (F := []) Tryz.func105 B105 N105 rfl rfl (fun w h => order0_fn) (fun _ hb => hb.elim) gno rfl (fun v L' hp => ?_))
 obtain ⟨Ao, co, rfl, rfl⟩ := hp
 simp only [List.append_nil]
 refine RV.m rfl rfl (RV.s (Step.extract0 rfl rfl) rfl (RV.s (Step.extract0 rfl rfl) rfl (RV.a rfl rfl (RV.a rfl rfl ?_))))
 refine RV.nil (KV.then_n (KV.e4 0 7 12 13 (CV.seq (CV.seq (CV.region ?_)))))
 refine RV.m rfl rfl (RV.s (Step.neq rfl rfl) rfl ?_)
 refine RV.nil (KV.then_n (KV.e5 0 7 12 13 102 (CV.cond_f rfl (CV.skip (KV.then_n ?_)))))
 refine KV.e3 0 7 12 (CV.seq (CV.region ?_))
 refine RV.m rfl rfl (RV.s (Step.lenSl Tryz.underlying248 rfl) rfl ?_)
 refine RV.op (OV.make (K := stK) (0) (0) (()) Tryz.underlying314 I318 rfl rfl rfl rfl rfl (by omega) (by omega) (by omega) gno rfl (fun b30_2 => ?_))
 refine RV.m rfl rfl (RV.s (Step.build rfl (Bd316_0_1 _ _ _ _ _ _)) rfl ?_)
 refine RV.op (OV.box (t := 316) #[_, _, _] rfl rfl gno rfl (fun b30_5 => ?_))
 refine RV.a rfl rfl ?_
 refine RV.nil (KV.then_n (KV.e3 0 7 14 (CV.seq (CV.seq (CV.region ?_)))))
 refine RV.m rfl rfl (RV.s (Step.lenSl Tryz.underlying248 rfl) rfl (RV.m rfl rfl ?_))
 refine RV.nil (KV.then_n (KV.e5 7 14 110 111 112 (CV.block (KV.e5 7 14 110 111 112 ?_))))
 refine CV.loop0 ⟨rfl, rfl, rfl, rfl, rfl, trivial⟩ (fun _ => ?_)
 refine CV.seq (CV.region ?_)
 refine RV.s (Step.lss rfl rfl) rfl ?_
 refine RV.nil (KV.then_n (KV.e6 7 14 110 111 112 113 (CV.seq (CV.cond_f rfl (CV.exit ?_)))))
 refine KV.then_exit (KV.then_exit (KV.block_hit (KV.then_n (KV.e2 7 14 (CV.seq ?_)))))
 refine CV.seq (CV.region ?_)
 refine RV.m rfl rfl (RV.s (Step.lenSl Tryz.underlying262 rfl) rfl (RV.m rfl rfl ?_))
 refine RV.nil (KV.then_n (KV.e4 14 127 128 129 (CV.block (KV.e4 14 127 128 129 ?_))))
 refine CV.loop0 ⟨rfl, rfl, rfl, rfl, trivial⟩ (fun _ => ?_)
 refine CV.seq (CV.region ?_)
 refine RV.s (Step.lss rfl rfl) rfl ?_
 refine RV.nil (KV.then_n (KV.e5 14 127 128 129 130 (CV.seq (CV.cond_f rfl (CV.exit ?_)))))
 refine KV.then_exit (KV.then_exit (KV.block_hit (KV.then_n (KV.e1 14 (CV.seq ?_)))))
 refine CV.region ?_
 refine RV.m rfl rfl (RV.a rfl rfl (RV.a rfl rfl ?_))
 refine RV.nil (KV.then_n (KV.e2 2 3 (CV.ret ?_)))
 refine KV.sel [] [] rfl ?_
 exact KV.ret2 rfl rfl rfl _ (fun _ h => h) ⟨⟨_, rfl⟩, rfl⟩

set_option maxRecDepth 100000 in
set_option maxHeartbeats 1000000 in
theorem newPower0_fn (bp : Option Addr) {w : World} : Fx Tryz.prog 71 [.slice none 0 0, .slice none 0 0, .slice none 0 0, .pointer bp] w [] no (fun v L => ∃ b tp mp A c, v = .tuple #[.pointer (some ⟨b, 0, none⟩), .bool true] ∧ L = [Blk b (.cells #[.slice none 0 0, .pointer (some tp), .pointer (some mp), .pointer bp, .slice A 0 c] 170 (0, 0))]) := by
 refine Sv.Fx.body Tryz.func71 rfl T71 rfl ?_
 intro I hro hI
 refine KV.e4 0 1 2 3 (CV.seq (CV.region ?_))
 refine RV.a rfl rfl (RV.a rfl rfl ?_)
 refine RV.nil (KV.then_n (KV.e4 0 1 2 3 (CV.seq (CV.seq (CV.region ?_)))))
 refine RV.m rfl rfl (RV.s (Step.lenSl Tryz.underlying83 rfl) rfl (RV.s (Step.gtr rfl rfl) rfl (RV.m rfl rfl (RV.gw rfl (Step.move rfl) rfl (RV.gw rfl (Step.lenSl Tryz.underlying85 rfl) rfl (RV.gw rfl (Step.move rfl) rfl (RV.gw rfl (Step.lenSl Tryz.underlying83 rfl) rfl ?_)))))))
 refine RV.gw rfl (Step.neq rfl rfl) rfl (RV.s (Step.pick_f rfl rfl) rfl (RV.m rfl rfl (RV.gw rfl (Step.move rfl) rfl ?_)))
 refine RV.op (OV.callP Tryz.func101 B101 N101 rfl (aligned0_fn) (gyes rfl) rfl ?_)
 refine RV.gw rfl (Step.not rfl) rfl (RV.s (Step.pick_f rfl rfl) rfl ?_)
 refine RV.nil (KV.then_n (KV.e5 0 1 2 3 33 (CV.cond_f rfl (CV.skip (KV.then_n ?_)))))
 refine KV.e4 0 1 2 3 (CV.seq (CV.region ?_))
 refine RV.m rfl rfl (RV.s (Step.build rfl (Bd170_3 _)) rfl ?_)
 refine RV.op (OV.box (t := 170) #[_, _, _, _, _] rfl rfl gno rfl (fun b3_2 => ?_))
 refine RV.a rfl rfl ?_
 refine RV.nil (KV.then_n (KV.e4 0 1 2 10 (CV.seq (CV.region ?_))))
 refine RV.a rfl rfl ?_
 refine RV.nil (KV.then_n (KV.e5 0 1 2 10 11 (CV.seq (CV.region ?_))))
 refine RV.a rfl rfl ?_
 refine RV.nil (KV.then_n (KV.e6 0 1 2 10 11 12 (CV.seq (CV.region ?_))))
 refine RV.op (OV.makeMap0 (κ := Unit) (ν := Unit) (fun _ => .int .i64 0) (fun _ => .bool false) gno rfl (fun mb => ?_))
 refine RV.a rfl rfl ?_
 refine RV.nil (KV.then_n (KV.e7 0 1 2 10 11 12 13 (CV.seq (CV.seq (CV.region ?_)))))
 refine RV.m rfl rfl (RV.s (Step.lenSl Tryz.underlying83 rfl) rfl (RV.m rfl rfl ?_))
 refine RV.nil (KV.then_n (KV.e10 0 1 2 10 11 12 13 38 39 40 (CV.block (KV.e10 0 1 2 10 11 12 13 38 39 40 ?_))))
 refine CV.loop0 ⟨rfl, rfl, rfl, rfl, rfl, rfl, rfl, rfl, rfl, rfl, trivial⟩ (fun _ => ?_)
 refine CV.seq (CV.region ?_)
 refine RV.s (Step.lss rfl rfl) rfl ?_
 refine RV.nil (KV.then_n (KV.e11 0 1 2 10 11 12 13 38 39 40 41 (CV.seq (CV.cond_f rfl (CV.exit ?_)))))
 refine KV.then_exit (KV.then_exit (KV.block_hit (KV.then_n (KV.e5 0 1 10 11 12 (CV.seq ?_)))))
 refine CV.region ?_
 refine RV.a rfl rfl ?_
 refine RV.nil (KV.then_n (KV.e5 0 1 10 11 12 (CV.seq (CV.seq (CV.region ?_)))))
 refine RV.m rfl rfl (RV.m rfl rfl (RV.m rfl rfl ?_))
 refine RV.op (OV.call [] (F := [_, _]) Tryz.func103 B103 N103 rfl rfl (fun w h => devNew0_fn) (fun _ hb => hb.elim) gno rfl (fun v L' hp => ?_))
 obtain ⟨⟨bt, rfl⟩, rfl⟩ := hp
 simp only [List.append_nil]
 refine RV.m rfl rfl (RV.s (Step.extract0 rfl rfl) rfl (RV.s (Step.extract0 rfl rfl) rfl (RV.s (Step.nilCheck rfl) rfl (RV.s (Step.fieldAddr rfl (F170_1 _ _)) rfl ?_))))
 refine RV.op (OV.store 0 [_] #[_, _, _, _, _] I167 rfl rfl rfl rfl rfl (Nat.le_of_ble_eq_true rfl) (by simp [Value.oneCell']) rfl gno ?_)
 refine RV.a rfl rfl ?_
 refine RV.nil (KV.then_n (KV.e4 0 10 12 18 (CV.seq (CV.region ?_))))
 refine RV.m rfl rfl (RV.s (Step.neq rfl rfl) rfl ?_)
 refine RV.nil (KV.then_n (KV.e4 0 10 12 96 (CV.cond_f rfl (CV.skip (KV.then_n ?_)))))
 refine KV.e3 0 10 12 (CV.seq (CV.seq (CV.region ?_)))
 refine RV.m rfl rfl (RV.m rfl rfl ?_)
 refine RV.op (OV.call [] (F := [_, _]) Tryz.func104 B104 N104 rfl rfl (fun w h => rpmNew0_fn) (fun _ hb => hb.elim) gno rfl (fun v L' hp => ?_))
 obtain ⟨⟨bm, rfl⟩, rfl⟩ := hp
 simp only [List.append_nil]
 refine RV.m rfl rfl (RV.s (Step.extract0 rfl rfl) rfl (RV.s (Step.extract0 rfl rfl) rfl (RV.s (Step.nilCheck rfl) rfl (RV.s (Step.fieldAddr rfl (F170_2 _ _)) rfl ?_))))
 refine RV.op (OV.store 0 [_] #[_, _, _, _, _] I168 rfl rfl rfl rfl rfl (Nat.le_of_ble_eq_true rfl) (by simp [Value.oneCell']) rfl gno ?_)
 refine RV.a rfl rfl ?_
 refine RV.nil (KV.then_n (KV.e3 0 10 18 (CV.seq (CV.region ?_))))
 refine RV.m rfl rfl (RV.s (Step.neq rfl rfl) rfl ?_)
 refine RV.nil (KV.then_n (KV.e3 0 10 106 (CV.cond_f rfl (CV.skip (KV.then_n ?_)))))
 refine KV.e2 0 10 (CV.seq (CV.region ?_))
 refine RV.m rfl rfl (RV.m rfl rfl (RV.s (Step.lenSl Tryz.underlying83 rfl) rfl (RV.m rfl rfl ?_)))
 refine RV.op (OV.callP Tryz.func106 B106 N106 rfl (linksOf0_fn) gno rfl ?_)
 refine RV.op (OV.call [] (F := [_, _]) Tryz.func105 B105 N105 rfl rfl (fun w h => order0_fn) (fun _ hb => hb.elim) gno rfl (fun v L' hp => ?_))
 obtain ⟨Ao, co, rfl, rfl⟩ := hp
 simp only [List.append_nil]
 refine RV.m rfl rfl (RV.s (Step.extract0 rfl rfl) rfl (RV.s (Step.extract0 rfl rfl) rfl (RV.s (Step.nilCheck rfl) rfl (RV.s (Step.fieldAddr rfl (F170_4 _ _)) rfl ?_))))
 refine RV.op (OV.store 0 [_] #[_, _, _, _, _] I48 rfl rfl rfl rfl rfl (Nat.le_of_ble_eq_true rfl) (by simp [Value.oneCell']) rfl gno ?_)
 refine RV.a rfl rfl ?_
 refine RV.nil (KV.then_n (KV.e2 10 18 (CV.seq (CV.region ?_))))
 refine RV.m rfl rfl (RV.m rfl rfl (RV.s (Step.eql rfl rfl) rfl (RV.a rfl rfl (RV.a rfl rfl ?_))))
 refine RV.nil (KV.then_n (KV.e2 8 9 (CV.ret ?_)))
 refine KV.sel [0] [_] rfl ?_
 exact KV.ret2 rfl rfl rfl _ (fun _ h => h) ⟨_, _, _, _, _, rfl, rfl⟩

set_option maxRecDepth 100000 in
set_option maxHeartbeats 1000000 in
theorem powerNew0_fn (bp : Option Addr) {w : World} : Fx Tryz.prog 33 [.slice none 0 0, .slice none 0 0, .slice none 0 0, .pointer bp] w [] no (fun v L => ∃ b tp mp A c, v = .tuple #[.pointer (some ⟨b, 0, none⟩), .int .i64 0] ∧ L = [Blk b (.cells #[.slice none 0 0, .pointer (some tp), .pointer (some mp), .pointer bp, .slice A 0 c] 170 (0, 0))]) := by
 refine Sv.Fx.body Tryz.func33 rfl T33 rfl ?_
 intro I hro hI
 refine KV.e4 0 1 2 3 (CV.seq (CV.region ?_))
 refine RV.a rfl rfl (RV.a rfl rfl ?_)
 refine RV.nil (KV.then_n (KV.e4 0 1 2 3 (CV.seq (CV.region ?_))))
 refine RV.m rfl rfl (RV.m rfl rfl (RV.m rfl rfl (RV.m rfl rfl ?_)))
 refine RV.op (OV.call [] (F := []) Tryz.func71 B71 N71 rfl rfl (fun w h => newPower0_fn bp) (fun _ hb => hb.elim) gno rfl (fun v L' hp => ?_))
 obtain ⟨b, tp, mp, Ao, co, rfl, rfl⟩ := hp
 refine RV.m rfl rfl (RV.s (Step.extract0 rfl rfl) rfl (RV.s (Step.extract0 rfl rfl) rfl (RV.a rfl rfl (RV.a rfl rfl ?_))))
 refine RV.nil (KV.then_n (KV.e3 3 10 11 (CV.seq (CV.seq (CV.region ?_)))))
 refine RV.m rfl rfl (RV.s (Step.not rfl) rfl ?_)
 refine RV.nil (KV.then_n (KV.e3 3 10 24 (CV.cond_f rfl (CV.skip (KV.then_n ?_)))))
 refine KV.e2 3 10 (CV.seq (CV.seq (CV.region ?_)))
 refine RV.m rfl rfl (RV.s (Step.nilCheck rfl) rfl (RV.s (Step.fieldAddr rfl (F170_0 _ _)) rfl (RV.s (Step.load Tryz.underlying166 rfl rfl (fun w h => h.cell 0 rfl rfl)) rfl (RV.s (Step.lenSl Tryz.underlying166 rfl) rfl (RV.m rfl rfl ?_)))))
 refine RV.nil (KV.then_n (KV.e5 3 10 28 29 30 (CV.block (KV.e5 3 10 28 29 30 ?_))))
 refine CV.loop0 ⟨rfl, rfl, rfl, rfl, rfl, trivial⟩ (fun _ => ?_)
 refine CV.seq (CV.region ?_)
 refine RV.s (Step.lss rfl rfl) rfl ?_
 refine RV.nil (KV.then_n (KV.e6 3 10 28 29 30 31 (CV.seq (CV.cond_f rfl (CV.exit ?_)))))
 refine KV.then_exit (KV.then_exit (KV.block_hit (KV.then_n (KV.e1 10 (CV.seq ?_)))))
 refine CV.region ?_
 refine RV.m rfl rfl (RV.a rfl rfl (RV.a rfl rfl ?_))
 refine RV.nil (KV.then_n (KV.e2 8 9 (CV.ret ?_)))
 refine KV.sel [0] [_] rfl ?_
 exact KV.ret2 rfl rfl rfl _ (fun _ h => h) ⟨_, _, _, _, _, rfl, rfl⟩
end Go.Proofs.YtdfkpdcpegcieaaGreatDoor
