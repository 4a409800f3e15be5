/-
 Walks, part 23.
-/
import Derived.Test.YtdfkpdcpegcieaaGreatDoorTab23
import Derived.Test.YtdfkpdcpegcieaaGreatDoorW8
set_option linter.unusedSimpArgs false
set_option linter.unusedVariables false
namespace Go.Proofs.YtdfkpdcpegcieaaGreatDoor
open Go.Sv Go.Perf Go.Ctl
def railK0 : Enc Unit where
 f _ := [.int .i64 0, .int .u64 0, .int .u64 0]
 sz := 3
 d := ()
 len _ := rfl
 pos := by decide
 one r v hv := by simp at hv; (repeat' (rcases hv with rfl | hv)); all_goals first | rfl | (subst hv; rfl)

set_option maxRecDepth 100000 in
set_option maxHeartbeats 1000000 in
theorem alignedR0_fn : FxP Tryz.prog 149 [.slice none 0 0] (.bool true) := by
 refine Sv.FxP.body Tryz.func149 rfl T149 rfl ?_
 intro wp
 refine KV.e1 0 (CV.seq (CV.region ?_))
 refine RV.a rfl rfl ?_
 refine RV.nil (KV.then_n (KV.e1 0 (CV.seq (CV.seq (CV.region ?_)))))
 refine RV.a rfl rfl ?_
 refine RV.nil (KV.then_n (KV.e2 0 3 (CV.block (KV.e2 0 3 ?_))))
 refine CV.loop0 ⟨rfl, rfl, trivial⟩ (fun _ => ?_)
 refine CV.seq (CV.seq (CV.region ?_))
 refine RV.m rfl rfl (RV.m rfl rfl (RV.s (Step.lenSl Tryz.underlying85 rfl) rfl (RV.s (Step.lss rfl rfl) rfl ?_)))
 refine RV.nil (KV.then_n (KV.e3 0 3 7 (CV.cond_f rfl (CV.exit (KV.then_exit ?_)))))
 refine KV.then_exit (KV.block_hit (KV.then_n (KV.env [] trivial (CV.seq (CV.region ?_)))))
 refine RV.a rfl rfl ?_
 refine RV.nil (KV.then_n (KV.e1 2 (CV.ret ?_)))
 exact KV.retP1 rfl rfl rfl

set_option maxRecDepth 100000 in
set_option maxHeartbeats 1000000 in
theorem invalidR0_fn : FxP Tryz.prog 197 [.int .i64 0, .slice none 0 0] (.bool false) := by
 refine Sv.FxP.body Tryz.func197 rfl T197 rfl ?_
 intro wp
 refine KV.e2 0 1 (CV.seq (CV.region ?_))
 refine RV.a rfl rfl ?_
 refine RV.nil (KV.then_n (KV.e2 0 1 (CV.seq (CV.seq (CV.region ?_)))))
 refine RV.m rfl rfl (RV.s (Step.lss rfl rfl) rfl (RV.m rfl rfl (RV.gw rfl (Step.move rfl) rfl (RV.gw rfl (Step.gtr rfl rfl) rfl (RV.s (Step.pick_f rfl rfl) rfl (RV.m rfl rfl (RV.gw rfl (Step.move rfl) rfl ?_)))))))
 refine RV.gw rfl (Step.lenSl Tryz.underlying262 rfl) rfl (RV.gw rfl (Step.gtr rfl rfl) rfl (RV.s (Step.pick_f rfl rfl) rfl ?_))
 refine RV.nil (KV.then_n (KV.e3 0 1 16 (CV.cond_f rfl (CV.skip (KV.then_n ?_)))))
 refine KV.e2 0 1 (CV.seq (CV.seq (CV.region ?_)))
 refine RV.a rfl rfl ?_
 refine RV.nil (KV.then_n (KV.e3 0 1 5 (CV.block (KV.e3 0 1 5 ?_))))
 refine CV.loop0 ⟨rfl, rfl, rfl, trivial⟩ (fun _ => ?_)
 refine CV.seq (CV.seq (CV.region ?_))
 refine RV.m rfl rfl (RV.m rfl rfl (RV.s (Step.lenSl Tryz.underlying262 rfl) rfl (RV.s (Step.lss rfl rfl) rfl ?_)))
 refine RV.nil (KV.then_n (KV.e4 0 1 5 20 (CV.cond_f rfl (CV.exit (KV.then_exit ?_)))))
 refine KV.then_exit (KV.block_hit (KV.then_n (KV.env [] trivial (CV.seq (CV.region ?_)))))
 refine RV.a rfl rfl ?_
 refine RV.nil (KV.then_n (KV.e1 4 (CV.ret ?_)))
 exact KV.retP1 rfl rfl rfl

set_option maxRecDepth 100000 in
set_option maxHeartbeats 1000000 in
theorem basicR0_fn : FxP Tryz.prog 183 [.int .i64 0, .slice none 0 0] (.int .i64 0) := by
 refine Sv.FxP.body Tryz.func183 rfl T183 rfl ?_
 intro wp
 refine KV.e2 0 1 (CV.seq (CV.region ?_))
 refine RV.a rfl rfl ?_
 refine RV.nil (KV.then_n (KV.e2 0 1 (CV.seq (CV.seq (CV.region ?_)))))
 refine RV.m rfl rfl (RV.m rfl rfl ?_)
 refine RV.op (OV.callP Tryz.func197 B197 N197 rfl (invalidR0_fn) gno rfl ?_)
 refine RV.nil (KV.then_n (KV.e2 1 9 (CV.cond_f rfl (CV.skip (KV.then_n ?_)))))
 refine KV.e1 1 (CV.seq (CV.seq (CV.region ?_)))
 refine RV.a rfl rfl ?_
 refine RV.nil (KV.then_n (KV.e2 1 5 (CV.block (KV.e2 1 5 ?_))))
 refine CV.loop0 ⟨rfl, rfl, trivial⟩ (fun _ => ?_)
 refine CV.seq (CV.seq (CV.region ?_))
 refine RV.m rfl rfl (RV.m rfl rfl (RV.s (Step.lenSl Tryz.underlying262 rfl) rfl (RV.s (Step.lss rfl rfl) rfl ?_)))
 refine RV.nil (KV.then_n (KV.e3 1 5 13 (CV.cond_f rfl (CV.exit (KV.then_exit ?_)))))
 refine KV.then_exit (KV.block_hit (KV.then_n (KV.env [] trivial (CV.seq (CV.region ?_)))))
 refine RV.a rfl rfl ?_
 refine RV.nil (KV.then_n (KV.e1 4 (CV.ret ?_)))
 exact KV.retP1 rfl rfl rfl

set_option maxRecDepth 100000 in
set_option maxHeartbeats 1000000 in
theorem matrixR0_fn {w : World} : Fx Tryz.prog 184 [.int .i64 0, .slice none 0 0] w [] no (fun v L => (∃ A c, v = .slice A 0 c) ∧ L = []) := by
 refine Sv.Fx.body Tryz.func184 rfl T184 rfl ?_
 intro I hro hI
 refine KV.e2 0 1 (CV.seq (CV.region ?_))
 refine RV.a rfl rfl ?_
 refine RV.nil (KV.then_n (KV.e2 0 1 (CV.seq (CV.region ?_))))
 refine RV.m rfl rfl ?_
 refine RV.op (OV.make (K := nslK) (0) (0) (()) Tryz.underlying386 I202 rfl rfl rfl rfl rfl (by omega) (by omega) (by omega) gno rfl (fun b1_1 => ?_))
 refine RV.a rfl rfl ?_
 refine RV.nil (KV.then_n (KV.e3 0 1 5 (CV.seq (CV.seq (CV.region ?_)))))
 refine RV.a rfl rfl ?_
 refine RV.nil (KV.then_n (KV.e4 0 1 5 6 (CV.block (KV.e4 0 1 5 6 ?_))))
 refine CV.loop0 ⟨rfl, rfl, rfl, rfl, trivial⟩ (fun _ => ?_)
 refine CV.seq (CV.seq (CV.region ?_))
 refine RV.m rfl rfl (RV.m rfl rfl (RV.s (Step.lss rfl rfl) rfl ?_))
 refine RV.nil (KV.then_n (KV.e5 0 1 5 6 15 (CV.cond_f rfl (CV.exit (KV.then_exit ?_)))))
 refine KV.then_exit (KV.block_hit (KV.then_n (KV.e3 0 1 5 (CV.seq (CV.seq ?_)))))
 refine CV.region ?_
 refine RV.a rfl rfl ?_
 refine RV.nil (KV.then_n (KV.e4 0 1 5 7 (CV.block (KV.e4 0 1 5 7 ?_))))
 refine CV.loop0 ⟨rfl, rfl, rfl, rfl, trivial⟩ (fun _ => ?_)
 refine CV.seq (CV.seq (CV.region ?_))
 refine RV.m rfl rfl (RV.m rfl rfl (RV.s (Step.lenSl Tryz.underlying262 rfl) rfl (RV.s (Step.lss rfl rfl) rfl ?_)))
 refine RV.nil (KV.then_n (KV.e5 0 1 5 7 26 (CV.cond_f rfl (CV.exit (KV.then_exit ?_)))))
 refine KV.then_exit (KV.block_hit (KV.then_n (KV.e2 0 5 (CV.seq (CV.seq ?_)))))
 refine CV.region ?_
 refine RV.a rfl rfl ?_
 refine RV.nil (KV.then_n (KV.e3 0 5 8 (CV.block (KV.e3 0 5 8 ?_))))
 refine CV.loop0 ⟨rfl, rfl, rfl, trivial⟩ (fun _ => ?_)
 refine CV.seq (CV.seq (CV.region ?_))
 refine RV.m rfl rfl (RV.m rfl rfl (RV.s (Step.lss rfl rfl) rfl ?_))
 refine RV.nil (KV.then_n (KV.e4 0 5 8 45 (CV.cond_f rfl (CV.exit (KV.then_exit ?_)))))
 refine KV.then_exit (KV.block_hit (KV.then_n (KV.e1 5 (CV.seq (CV.region ?_)))))
 refine RV.m rfl rfl (RV.a rfl rfl ?_)
 refine RV.nil (KV.then_n (KV.e1 4 (CV.ret ?_)))
 refine KV.sel [] [] rfl ?_
 exact KV.ret1 rfl rfl _ (fun _ h => h) ⟨⟨_, _, rfl⟩, rfl⟩

set_option maxRecDepth 100000 in
set_option maxHeartbeats 1000000 in
theorem dgCheckR0_fn {w : World} : Fx Tryz.prog 161 [.int .i64 0, .slice none 0 0] w [] no (fun v L => v = .int .i64 0 ∧ L = []) := by
 refine Sv.Fx.body Tryz.func161 rfl T161 rfl ?_
 intro I hro hI
 refine KV.e2 0 1 (CV.seq (CV.region ?_))
 refine RV.a rfl rfl ?_
 refine RV.nil (KV.then_n (KV.e2 0 1 (CV.seq (CV.seq (CV.region ?_)))))
 refine RV.m rfl rfl (RV.m rfl rfl ?_)
 refine RV.op (OV.callP Tryz.func183 B183 N183 rfl (basicR0_fn) gno rfl ?_)
 refine RV.a rfl rfl ?_
 refine RV.nil (KV.then_n (KV.e3 0 1 5 (CV.seq (CV.region ?_))))
 refine RV.m rfl rfl (RV.s (Step.neq rfl rfl) rfl ?_)
 refine RV.nil (KV.then_n (KV.e4 0 1 5 12 (CV.cond_f rfl (CV.skip (KV.then_n ?_)))))
 refine KV.e2 0 1 (CV.seq (CV.region ?_))
 refine RV.m rfl rfl (RV.m rfl rfl ?_)
 refine RV.op (OV.call [] (F := []) Tryz.func184 B184 N184 rfl rfl (fun w h => matrixR0_fn) (fun _ hb => hb.elim) gno rfl (fun v L' hp => ?_))
 obtain ⟨⟨Am, cm, rfl⟩, rfl⟩ := hp
 simp only [List.append_nil]
 refine RV.a rfl rfl ?_
 refine RV.nil (KV.then_n (KV.e2 0 6 (CV.seq (CV.seq (CV.region ?_)))))
 refine RV.a rfl rfl ?_
 refine RV.nil (KV.then_n (KV.e3 0 6 7 (CV.block (KV.e3 0 6 7 ?_))))
 refine CV.loop0 ⟨rfl, rfl, rfl, trivial⟩ (fun _ => ?_)
 refine CV.seq (CV.seq (CV.region ?_))
 refine RV.m rfl rfl (RV.m rfl rfl (RV.s (Step.lss rfl rfl) rfl ?_))
 refine RV.nil (KV.then_n (KV.e4 0 6 7 19 (CV.cond_f rfl (CV.exit (KV.then_exit ?_)))))
 refine KV.then_exit (KV.block_hit (KV.then_n (KV.env [] trivial (CV.seq (CV.region ?_)))))
 refine RV.a rfl rfl ?_
 refine RV.nil (KV.then_n (KV.e1 4 (CV.ret ?_)))
 refine KV.sel [] [] rfl ?_
 exact KV.ret1 rfl rfl _ (fun _ h => h) ⟨rfl, rfl⟩

set_option maxRecDepth 100000 in
set_option maxHeartbeats 1000000 in
theorem devCheckR0_fn : FxP Tryz.prog 159 [.slice none 0 0, .int .i64 0] (.int .i64 0) := by
 refine Sv.FxP.body Tryz.func159 rfl T159 rfl ?_
 intro wp
 refine KV.e2 0 1 (CV.seq (CV.region ?_))
 refine RV.a rfl rfl ?_
 refine RV.nil (KV.then_n (KV.e2 0 1 (CV.seq (CV.seq (CV.region ?_)))))
 refine RV.m rfl rfl (RV.s (Step.lenSl Tryz.underlying247 rfl) rfl (RV.s (Step.gtr rfl rfl) rfl (RV.m rfl rfl (RV.gw rfl (Step.move rfl) rfl (RV.gw rfl (Step.lss rfl rfl) rfl (RV.s (Step.pick_f rfl rfl) rfl (RV.m rfl rfl ?_)))))))
 refine RV.gw rfl (Step.move rfl) rfl (RV.gw rfl (Step.gtr rfl rfl) rfl (RV.s (Step.pick_f rfl rfl) rfl ?_))
 refine RV.nil (KV.then_n (KV.e3 0 1 16 (CV.cond_f rfl (CV.skip (KV.then_n ?_)))))
 refine KV.e2 0 1 (CV.seq (CV.seq (CV.region ?_)))
 refine RV.a rfl rfl ?_
 refine RV.nil (KV.then_n (KV.e3 0 1 5 (CV.block (KV.e3 0 1 5 ?_))))
 refine CV.loop0 ⟨rfl, rfl, rfl, trivial⟩ (fun _ => ?_)
 refine CV.seq (CV.seq (CV.region ?_))
 refine RV.m rfl rfl (RV.m rfl rfl (RV.s (Step.lenSl Tryz.underlying247 rfl) rfl (RV.s (Step.lss rfl rfl) rfl ?_)))
 refine RV.nil (KV.then_n (KV.e4 0 1 5 20 (CV.cond_f rfl (CV.exit (KV.then_exit ?_)))))
 refine KV.then_exit (KV.block_hit (KV.then_n (KV.env [] trivial (CV.seq (CV.region ?_)))))
 refine RV.a rfl rfl ?_
 refine RV.nil (KV.then_n (KV.e1 4 (CV.ret ?_)))
 exact KV.retP1 rfl rfl rfl

set_option maxRecDepth 100000 in
set_option maxHeartbeats 1000000 in
theorem railsNewR0_fn {w : World} : Fx Tryz.prog 160 [.slice none 0 0] w [] no (fun v L => (∃ b, v = .tuple #[.pointer (some ⟨b, 0, none⟩), .int .i64 0]) ∧ L = []) := by
 refine Sv.Fx.body Tryz.func160 rfl T160 rfl ?_
 intro I hro hI
 refine KV.e1 0 (CV.seq (CV.region ?_))
 refine RV.a rfl rfl (RV.a rfl rfl ?_)
 refine RV.nil (KV.then_n (KV.e1 0 (CV.seq (CV.seq (CV.region ?_)))))
 refine RV.m rfl rfl (RV.s (Step.lenSl Tryz.underlying84 rfl) rfl (RV.s (Step.gtr rfl rfl) rfl ?_))
 refine RV.nil (KV.then_n (KV.e2 0 10 (CV.cond_f rfl (CV.skip (KV.then_n ?_)))))
 refine KV.e1 0 (CV.seq (CV.seq (CV.region ?_)))
 refine RV.a rfl rfl ?_
 refine RV.nil (KV.then_n (KV.e2 0 4 (CV.block (KV.e2 0 4 ?_))))
 refine CV.loop0 ⟨rfl, rfl, trivial⟩ (fun _ => ?_)
 refine CV.seq (CV.seq (CV.region ?_))
 refine RV.m rfl rfl (RV.m rfl rfl (RV.s (Step.lenSl Tryz.underlying84 rfl) rfl (RV.s (Step.lss rfl rfl) rfl ?_)))
 refine RV.nil (KV.then_n (KV.e3 0 4 14 (CV.cond_f rfl (CV.exit (KV.then_exit ?_)))))
 refine KV.then_exit (KV.block_hit (KV.then_n (KV.e1 0 (CV.seq (CV.seq ?_)))))
 refine CV.region ?_
 refine RV.a rfl rfl ?_
 refine RV.nil (KV.then_n (KV.e2 0 5 (CV.block (KV.e2 0 5 ?_))))
 refine CV.loop0 ⟨rfl, rfl, trivial⟩ (fun _ => ?_)
 refine CV.seq (CV.seq (CV.region ?_))
 refine RV.m rfl rfl (RV.m rfl rfl (RV.s (Step.lenSl Tryz.underlying84 rfl) rfl (RV.s (Step.lss rfl rfl) rfl ?_)))
 refine RV.nil (KV.then_n (KV.e3 0 5 52 (CV.cond_f rfl (CV.exit (KV.then_exit ?_)))))
 refine KV.then_exit (KV.block_hit (KV.then_n (KV.e1 0 (CV.seq ?_))))
 refine CV.any (Hp I w []) (by kernel_rfl) (fun _ h => h.drew) 13 rfl ?_
 refine AV.u 1 (bl 13 2) rfl gno (Step.move rfl) rfl (fun _ h => h.sel [] rfl) ?_
 refine AV.u 3 (bl 13 10) rfl gno (Step.move rfl) rfl (fun _ h => h.sel [] rfl) ?_
 refine AV.u 4 (bl 13 26) rfl gno (Step.lenSl Tryz.underlying84 rfl) rfl (fun _ h => h.sel [] rfl) ?_
 refine AV.u 6 (bl 13 90) rfl gno (Step.move rfl) rfl (fun _ h => h.sel [] rfl) ?_
 refine AV.u 7 (bl 13 218) rfl gno (Step.lenSl Tryz.underlying84 rfl) rfl (fun _ h => h.sel [] rfl) ?_
 refine AV.all [0, 5, 8] (by kernel_rfl) (by decide) ?_
 refine ⟨⟨_, rfl, ?_⟩, ⟨⟨_, rfl, ?_⟩, ⟨⟨_, rfl, ?_⟩, trivial⟩⟩⟩
 ·
  refine OV.buildSlice (K := railK0) ([]) rfl (Bs84_0_) rfl rfl (by omega) gno rfl (fun b18_0 => ?_)
  refine AV.next (bl 13 219) (by kernel_rfl) (fun _ h => h.sel [] rfl) ?_
  refine AV.all [2, 5, 8] (by kernel_rfl) (by decide) ?_
  refine ⟨⟨_, rfl, ?_⟩, ⟨⟨_, rfl, ?_⟩, ⟨⟨_, rfl, ?_⟩, trivial⟩⟩⟩
  ·
   refine OV.append 0 Tryz.underlying84 I364 rfl rfl rfl rfl rfl rfl (fun w h => (RS.nil (K := railK0))) (by simp only [List.length_nil]; omega) (by simp only [List.length_nil]; omega) gno rfl (fun b18_2a b18_2c => ?_)
   refine AV.next (bl 13 223) (by kernel_rfl) (fun _ h => h.sel [] rfl) ?_
   refine AV.all [5, 8] (by kernel_rfl) (by decide) ?_
   refine ⟨⟨_, rfl, ?_⟩, ⟨⟨_, rfl, ?_⟩, trivial⟩⟩
   ·
    refine OV.make (K := (intK .i64)) (0) (0) (0) Tryz.underlying48 I3 rfl rfl rfl rfl rfl (by omega) (by omega) (by omega) gno rfl (fun b18_5 => ?_)
    refine AV.next (bl 13 255) (by kernel_rfl) (fun _ h => h.sel [] rfl) ?_
    refine AV.all [8] (by kernel_rfl) (by decide) ?_
    refine ⟨⟨_, rfl, ?_⟩, trivial⟩
    ·
     refine OV.make (K := (intK .u64)) (0) (0) (0) Tryz.underlying85 I24 rfl rfl rfl rfl rfl (by omega) (by omega) (by omega) gno rfl (fun b18_8 => ?_)
     refine AV.next (bl 13 511) (by kernel_rfl) (fun _ h => h.sel [] rfl) ?_
     refine AV.u 9 (bl 13 1023) rfl gno (Step.build rfl (Bd385_0_1_2 _ _ _ _ _ _ _ _ _)) rfl (fun _ h => h.sel [] rfl) ?_
     refine AV.all [10] (by kernel_rfl) (by decide) ?_
     refine ⟨⟨_, rfl, ?_⟩, trivial⟩
     ·
      refine OV.box (t := 385) #[_, _, _, _] rfl rfl gno rfl (fun b18_10 => ?_)
      refine AV.next (bl 13 2047) (by kernel_rfl) (fun _ h => h.sel [] rfl) ?_
      refine AV.u 11 (bl 13 4095) rfl gno (Step.assign rfl) rfl (fun _ h => h.sel [] rfl) ?_
      refine AV.u 12 (bl 13 8191) rfl gno (Step.assign rfl) rfl (fun _ h => h.sel [] rfl) ?_
      refine AV.done (by kernel_rfl) ?_
      refine KV.then_n (KV.e2 2 3 (CV.ret ?_))
      refine KV.sel [] [] rfl ?_
      exact KV.ret2 rfl rfl rfl _ (fun _ h => h) ⟨⟨_, rfl⟩, rfl⟩
   ·
    refine OV.make (K := (intK .u64)) (0) (0) (0) Tryz.underlying85 I24 rfl rfl rfl rfl rfl (by omega) (by omega) (by omega) gno rfl (fun b18_8 => ?_)
    refine AV.next (bl 13 479) (by kernel_rfl) (fun _ h => h.sel [] rfl) ?_
    refine AV.all [5] (by kernel_rfl) (by decide) ?_
    refine ⟨⟨_, rfl, ?_⟩, trivial⟩
    ·
     refine OV.make (K := (intK .i64)) (0) (0) (0) Tryz.underlying48 I3 rfl rfl rfl rfl rfl (by omega) (by omega) (by omega) gno rfl (fun b18_5 => ?_)
     refine AV.next (bl 13 511) (by kernel_rfl) (fun _ h => h.sel [] rfl) ?_
     refine AV.u 9 (bl 13 1023) rfl gno (Step.build rfl (Bd385_0_1_2 _ _ _ _ _ _ _ _ _)) rfl (fun _ h => h.sel [] rfl) ?_
     refine AV.all [10] (by kernel_rfl) (by decide) ?_
     refine ⟨⟨_, rfl, ?_⟩, trivial⟩
     ·
      refine OV.box (t := 385) #[_, _, _, _] rfl rfl gno rfl (fun b18_10 => ?_)
      refine AV.next (bl 13 2047) (by kernel_rfl) (fun _ h => h.sel [] rfl) ?_
      refine AV.u 11 (bl 13 4095) rfl gno (Step.assign rfl) rfl (fun _ h => h.sel [] rfl) ?_
      refine AV.u 12 (bl 13 8191) rfl gno (Step.assign rfl) rfl (fun _ h => h.sel [] rfl) ?_
      refine AV.done (by kernel_rfl) ?_
      refine KV.then_n (KV.e2 2 3 (CV.ret ?_))
      refine KV.sel [] [] rfl ?_
      exact KV.ret2 rfl rfl rfl _ (fun _ h => h) ⟨⟨_, rfl⟩, rfl⟩
  ·
   refine OV.make (K := (intK .i64)) (0) (0) (0) Tryz.underlying48 I3 rfl rfl rfl rfl rfl (by omega) (by omega) (by omega) gno rfl (fun b18_5 => ?_)
   refine AV.next (bl 13 251) (by kernel_rfl) (fun _ h => h.sel [] rfl) ?_
   refine AV.all [2, 8] (by kernel_rfl) (by decide) ?_
   refine ⟨⟨_, rfl, ?_⟩, ⟨⟨_, rfl, ?_⟩, trivial⟩⟩
   ·
    refine OV.append 0 Tryz.underlying84 I364 rfl rfl rfl rfl rfl rfl (fun w h => (RS.nil (K := railK0))) (by simp only [List.length_nil]; omega) (by simp only [List.length_nil]; omega) gno rfl (fun b18_2a b18_2c => ?_)
    refine AV.next (bl 13 255) (by kernel_rfl) (fun _ h => h.sel [] rfl) ?_
    refine AV.all [8] (by kernel_rfl) (by decide) ?_
    refine ⟨⟨_, rfl, ?_⟩, trivial⟩
    ·
     refine OV.make (K := (intK .u64)) (0) (0) (0) Tryz.underlying85 I24 rfl rfl rfl rfl rfl (by omega) (by omega) (by omega) gno rfl (fun b18_8 => ?_)
     refine AV.next (bl 13 511) (by kernel_rfl) (fun _ h => h.sel [] rfl) ?_
     refine AV.u 9 (bl 13 1023) rfl gno (Step.build rfl (Bd385_0_1_2 _ _ _ _ _ _ _ _ _)) rfl (fun _ h => h.sel [] rfl) ?_
     refine AV.all [10] (by kernel_rfl) (by decide) ?_
     refine ⟨⟨_, rfl, ?_⟩, trivial⟩
     ·
      refine OV.box (t := 385) #[_, _, _, _] rfl rfl gno rfl (fun b18_10 => ?_)
      refine AV.next (bl 13 2047) (by kernel_rfl) (fun _ h => h.sel [] rfl) ?_
      refine AV.u 11 (bl 13 4095) rfl gno (Step.assign rfl) rfl (fun _ h => h.sel [] rfl) ?_
      refine AV.u 12 (bl 13 8191) rfl gno (Step.assign rfl) rfl (fun _ h => h.sel [] rfl) ?_
      refine AV.done (by kernel_rfl) ?_
      refine KV.then_n (KV.e2 2 3 (CV.ret ?_))
      refine KV.sel [] [] rfl ?_
      exact KV.ret2 rfl rfl rfl _ (fun _ h => h) ⟨⟨_, rfl⟩, rfl⟩
   ·
    refine OV.make (K := (intK .u64)) (0) (0) (0) Tryz.underlying85 I24 rfl rfl rfl rfl rfl (by omega) (by omega) (by omega) gno rfl (fun b18_8 => ?_)
    refine AV.next (bl 13 507) (by kernel_rfl) (fun _ h => h.sel [] rfl) ?_
    refine AV.all [2] (by kernel_rfl) (by decide) ?_
    refine ⟨⟨_, rfl, ?_⟩, trivial⟩
    ·
     refine OV.append 0 Tryz.underlying84 I364 rfl rfl rfl rfl rfl rfl (fun w h => (RS.nil (K := railK0))) (by simp only [List.length_nil]; omega) (by simp only [List.length_nil]; omega) gno rfl (fun b18_2a b18_2c => ?_)
     refine AV.next (bl 13 511) (by kernel_rfl) (fun _ h => h.sel [] rfl) ?_
     refine AV.u 9 (bl 13 1023) rfl gno (Step.build rfl (Bd385_0_1_2 _ _ _ _ _ _ _ _ _)) rfl (fun _ h => h.sel [] rfl) ?_
     refine AV.all [10] (by kernel_rfl) (by decide) ?_
     refine ⟨⟨_, rfl, ?_⟩, trivial⟩
     ·
      refine OV.box (t := 385) #[_, _, _, _] rfl rfl gno rfl (fun b18_10 => ?_)
      refine AV.next (bl 13 2047) (by kernel_rfl) (fun _ h => h.sel [] rfl) ?_
      refine AV.u 11 (bl 13 4095) rfl gno (Step.assign rfl) rfl (fun _ h => h.sel [] rfl) ?_
      refine AV.u 12 (bl 13 8191) rfl gno (Step.assign rfl) rfl (fun _ h => h.sel [] rfl) ?_
      refine AV.done (by kernel_rfl) ?_
      refine KV.then_n (KV.e2 2 3 (CV.ret ?_))
      refine KV.sel [] [] rfl ?_
      exact KV.ret2 rfl rfl rfl _ (fun _ h => h) ⟨⟨_, rfl⟩, rfl⟩
  ·
   refine OV.make (K := (intK .u64)) (0) (0) (0) Tryz.underlying85 I24 rfl rfl rfl rfl rfl (by omega) (by omega) (by omega) gno rfl (fun b18_8 => ?_)
   refine AV.next (bl 13 475) (by kernel_rfl) (fun _ h => h.sel [] rfl) ?_
   refine AV.all [2, 5] (by kernel_rfl) (by decide) ?_
   refine ⟨⟨_, rfl, ?_⟩, ⟨⟨_, rfl, ?_⟩, trivial⟩⟩
   ·
    refine OV.append 0 Tryz.underlying84 I364 rfl rfl rfl rfl rfl rfl (fun w h => (RS.nil (K := railK0))) (by simp only [List.length_nil]; omega) (by simp only [List.length_nil]; omega) gno rfl (fun b18_2a b18_2c => ?_)
    refine AV.next (bl 13 479) (by kernel_rfl) (fun _ h => h.sel [] rfl) ?_
    refine AV.all [5] (by kernel_rfl) (by decide) ?_
    refine ⟨⟨_, rfl, ?_⟩, trivial⟩
    ·
     refine OV.make (K := (intK .i64)) (0) (0) (0) Tryz.underlying48 I3 rfl rfl rfl rfl rfl (by omega) (by omega) (by omega) gno rfl (fun b18_5 => ?_)
     refine AV.next (bl 13 511) (by kernel_rfl) (fun _ h => h.sel [] rfl) ?_
     refine AV.u 9 (bl 13 1023) rfl gno (Step.build rfl (Bd385_0_1_2 _ _ _ _ _ _ _ _ _)) rfl (fun _ h => h.sel [] rfl) ?_
     refine AV.all [10] (by kernel_rfl) (by decide) ?_
     refine ⟨⟨_, rfl, ?_⟩, trivial⟩
     ·
      refine OV.box (t := 385) #[_, _, _, _] rfl rfl gno rfl (fun b18_10 => ?_)
      refine AV.next (bl 13 2047) (by kernel_rfl) (fun _ h => h.sel [] rfl) ?_
      refine AV.u 11 (bl 13 4095) rfl gno (Step.assign rfl) rfl (fun _ h => h.sel [] rfl) ?_
      refine AV.u 12 (bl 13 8191) rfl gno (Step.assign rfl) rfl (fun _ h => h.sel [] rfl) ?_
      refine AV.done (by kernel_rfl) ?_
      refine KV.then_n (KV.e2 2 3 (CV.ret ?_))
      refine KV.sel [] [] rfl ?_
      exact KV.ret2 rfl rfl rfl _ (fun _ h => h) ⟨⟨_, rfl⟩, rfl⟩
   ·
    refine OV.make (K := (intK .i64)) (0) (0) (0) Tryz.underlying48 I3 rfl rfl rfl rfl rfl (by omega) (by omega) (by omega) gno rfl (fun b18_5 => ?_)
    refine AV.next (bl 13 507) (by kernel_rfl) (fun _ h => h.sel [] rfl) ?_
    refine AV.all [2] (by kernel_rfl) (by decide) ?_
    refine ⟨⟨_, rfl, ?_⟩, trivial⟩
    ·
     refine OV.append 0 Tryz.underlying84 I364 rfl rfl rfl rfl rfl rfl (fun w h => (RS.nil (K := railK0))) (by simp only [List.length_nil]; omega) (by simp only [List.length_nil]; omega) gno rfl (fun b18_2a b18_2c => ?_)
     refine AV.next (bl 13 511) (by kernel_rfl) (fun _ h => h.sel [] rfl) ?_
     refine AV.u 9 (bl 13 1023) rfl gno (Step.build rfl (Bd385_0_1_2 _ _ _ _ _ _ _ _ _)) rfl (fun _ h => h.sel [] rfl) ?_
     refine AV.all [10] (by kernel_rfl) (by decide) ?_
     refine ⟨⟨_, rfl, ?_⟩, trivial⟩
     ·
      refine OV.box (t := 385) #[_, _, _, _] rfl rfl gno rfl (fun b18_10 => ?_)
      refine AV.next (bl 13 2047) (by kernel_rfl) (fun _ h => h.sel [] rfl) ?_
      refine AV.u 11 (bl 13 4095) rfl gno (Step.assign rfl) rfl (fun _ h => h.sel [] rfl) ?_
      refine AV.u 12 (bl 13 8191) rfl gno (Step.assign rfl) rfl (fun _ h => h.sel [] rfl) ?_
      refine AV.done (by kernel_rfl) ?_
      refine KV.then_n (KV.e2 2 3 (CV.ret ?_))
      refine KV.sel [] [] rfl ?_
      exact KV.ret2 rfl rfl rfl _ (fun _ h => h) ⟨⟨_, rfl⟩, rfl⟩
 ·
  refine OV.make (K := (intK .i64)) (0) (0) (0) Tryz.underlying48 I3 rfl rfl rfl rfl rfl (by omega) (by omega) (by omega) gno rfl (fun b18_5 => ?_)
  refine AV.next (bl 13 250) (by kernel_rfl) (fun _ h => h.sel [] rfl) ?_
  refine AV.all [0, 8] (by kernel_rfl) (by decide) ?_
  refine ⟨⟨_, rfl, ?_⟩, ⟨⟨_, rfl, ?_⟩, trivial⟩⟩
  ·
   refine OV.buildSlice (K := railK0) ([]) rfl (Bs84_0_) rfl rfl (by omega) gno rfl (fun b18_0 => ?_)
   refine AV.next (bl 13 251) (by kernel_rfl) (fun _ h => h.sel [] rfl) ?_
   refine AV.all [2, 8] (by kernel_rfl) (by decide) ?_
   refine ⟨⟨_, rfl, ?_⟩, ⟨⟨_, rfl, ?_⟩, trivial⟩⟩
   ·
    refine OV.append 1 Tryz.underlying84 I364 rfl rfl rfl rfl rfl rfl (fun w h => (RS.nil (K := railK0))) (by simp only [List.length_nil]; omega) (by simp only [List.length_nil]; omega) gno rfl (fun b18_2a b18_2c => ?_)
    refine AV.next (bl 13 255) (by kernel_rfl) (fun _ h => h.sel [] rfl) ?_
    refine AV.all [8] (by kernel_rfl) (by decide) ?_
    refine ⟨⟨_, rfl, ?_⟩, trivial⟩
    ·
     refine OV.make (K := (intK .u64)) (0) (0) (0) Tryz.underlying85 I24 rfl rfl rfl rfl rfl (by omega) (by omega) (by omega) gno rfl (fun b18_8 => ?_)
     refine AV.next (bl 13 511) (by kernel_rfl) (fun _ h => h.sel [] rfl) ?_
     refine AV.u 9 (bl 13 1023) rfl gno (Step.build rfl (Bd385_0_1_2 _ _ _ _ _ _ _ _ _)) rfl (fun _ h => h.sel [] rfl) ?_
     refine AV.all [10] (by kernel_rfl) (by decide) ?_
     refine ⟨⟨_, rfl, ?_⟩, trivial⟩
     ·
      refine OV.box (t := 385) #[_, _, _, _] rfl rfl gno rfl (fun b18_10 => ?_)
      refine AV.next (bl 13 2047) (by kernel_rfl) (fun _ h => h.sel [] rfl) ?_
      refine AV.u 11 (bl 13 4095) rfl gno (Step.assign rfl) rfl (fun _ h => h.sel [] rfl) ?_
      refine AV.u 12 (bl 13 8191) rfl gno (Step.assign rfl) rfl (fun _ h => h.sel [] rfl) ?_
      refine AV.done (by kernel_rfl) ?_
      refine KV.then_n (KV.e2 2 3 (CV.ret ?_))
      refine KV.sel [] [] rfl ?_
      exact KV.ret2 rfl rfl rfl _ (fun _ h => h) ⟨⟨_, rfl⟩, rfl⟩
   ·
    refine OV.make (K := (intK .u64)) (0) (0) (0) Tryz.underlying85 I24 rfl rfl rfl rfl rfl (by omega) (by omega) (by omega) gno rfl (fun b18_8 => ?_)
    refine AV.next (bl 13 507) (by kernel_rfl) (fun _ h => h.sel [] rfl) ?_
    refine AV.all [2] (by kernel_rfl) (by decide) ?_
    refine ⟨⟨_, rfl, ?_⟩, trivial⟩
    ·
     refine OV.append 1 Tryz.underlying84 I364 rfl rfl rfl rfl rfl rfl (fun w h => (RS.nil (K := railK0))) (by simp only [List.length_nil]; omega) (by simp only [List.length_nil]; omega) gno rfl (fun b18_2a b18_2c => ?_)
     refine AV.next (bl 13 511) (by kernel_rfl) (fun _ h => h.sel [] rfl) ?_
     refine AV.u 9 (bl 13 1023) rfl gno (Step.build rfl (Bd385_0_1_2 _ _ _ _ _ _ _ _ _)) rfl (fun _ h => h.sel [] rfl) ?_
     refine AV.all [10] (by kernel_rfl) (by decide) ?_
     refine ⟨⟨_, rfl, ?_⟩, trivial⟩
     ·
      refine OV.box (t := 385) #[_, _, _, _] rfl rfl gno rfl (fun b18_10 => ?_)
      refine AV.next (bl 13 2047) (by kernel_rfl) (fun _ h => h.sel [] rfl) ?_
      refine AV.u 11 (bl 13 4095) rfl gno (Step.assign rfl) rfl (fun _ h => h.sel [] rfl) ?_
      refine AV.u 12 (bl 13 8191) rfl gno (Step.assign rfl) rfl (fun _ h => h.sel [] rfl) ?_
      refine AV.done (by kernel_rfl) ?_
      refine KV.then_n (KV.e2 2 3 (CV.ret ?_))
      refine KV.sel [] [] rfl ?_
      exact KV.ret2 rfl rfl rfl _ (fun _ h => h) ⟨⟨_, rfl⟩, rfl⟩
  ·
   refine OV.make (K := (intK .u64)) (0) (0) (0) Tryz.underlying85 I24 rfl rfl rfl rfl rfl (by omega) (by omega) (by omega) gno rfl (fun b18_8 => ?_)
   refine AV.next (bl 13 506) (by kernel_rfl) (fun _ h => h.sel [] rfl) ?_
   refine AV.all [0] (by kernel_rfl) (by decide) ?_
   refine ⟨⟨_, rfl, ?_⟩, trivial⟩
   ·
    refine OV.buildSlice (K := railK0) ([]) rfl (Bs84_0_) rfl rfl (by omega) gno rfl (fun b18_0 => ?_)
    refine AV.next (bl 13 507) (by kernel_rfl) (fun _ h => h.sel [] rfl) ?_
    refine AV.all [2] (by kernel_rfl) (by decide) ?_
    refine ⟨⟨_, rfl, ?_⟩, trivial⟩
    ·
     refine OV.append 2 Tryz.underlying84 I364 rfl rfl rfl rfl rfl rfl (fun w h => (RS.nil (K := railK0))) (by simp only [List.length_nil]; omega) (by simp only [List.length_nil]; omega) gno rfl (fun b18_2a b18_2c => ?_)
     refine AV.next (bl 13 511) (by kernel_rfl) (fun _ h => h.sel [] rfl) ?_
     refine AV.u 9 (bl 13 1023) rfl gno (Step.build rfl (Bd385_0_1_2 _ _ _ _ _ _ _ _ _)) rfl (fun _ h => h.sel [] rfl) ?_
     refine AV.all [10] (by kernel_rfl) (by decide) ?_
     refine ⟨⟨_, rfl, ?_⟩, trivial⟩
     ·
      refine OV.box (t := 385) #[_, _, _, _] rfl rfl gno rfl (fun b18_10 => ?_)
      refine AV.next (bl 13 2047) (by kernel_rfl) (fun _ h => h.sel [] rfl) ?_
      refine AV.u 11 (bl 13 4095) rfl gno (Step.assign rfl) rfl (fun _ h => h.sel [] rfl) ?_
      refine AV.u 12 (bl 13 8191) rfl gno (Step.assign rfl) rfl (fun _ h => h.sel [] rfl) ?_
      refine AV.done (by kernel_rfl) ?_
      refine KV.then_n (KV.e2 2 3 (CV.ret ?_))
      refine KV.sel [] [] rfl ?_
      exact KV.ret2 rfl rfl rfl _ (fun _ h => h) ⟨⟨_, rfl⟩, rfl⟩
 ·
  refine OV.make (K := (intK .u64)) (0) (0) (0) Tryz.underlying85 I24 rfl rfl rfl rfl rfl (by omega) (by omega) (by omega) gno rfl (fun b18_8 => ?_)
  refine AV.next (bl 13 474) (by kernel_rfl) (fun _ h => h.sel [] rfl) ?_
  refine AV.all [0, 5] (by kernel_rfl) (by decide) ?_
  refine ⟨⟨_, rfl, ?_⟩, ⟨⟨_, rfl, ?_⟩, trivial⟩⟩
  ·
   refine OV.buildSlice (K := railK0) ([]) rfl (Bs84_0_) rfl rfl (by omega) gno rfl (fun b18_0 => ?_)
   refine AV.next (bl 13 475) (by kernel_rfl) (fun _ h => h.sel [] rfl) ?_
   refine AV.all [2, 5] (by kernel_rfl) (by decide) ?_
   refine ⟨⟨_, rfl, ?_⟩, ⟨⟨_, rfl, ?_⟩, trivial⟩⟩
   ·
    refine OV.append 1 Tryz.underlying84 I364 rfl rfl rfl rfl rfl rfl (fun w h => (RS.nil (K := railK0))) (by simp only [List.length_nil]; omega) (by simp only [List.length_nil]; omega) gno rfl (fun b18_2a b18_2c => ?_)
    refine AV.next (bl 13 479) (by kernel_rfl) (fun _ h => h.sel [] rfl) ?_
    refine AV.all [5] (by kernel_rfl) (by decide) ?_
    refine ⟨⟨_, rfl, ?_⟩, trivial⟩
    ·
     refine OV.make (K := (intK .i64)) (0) (0) (0) Tryz.underlying48 I3 rfl rfl rfl rfl rfl (by omega) (by omega) (by omega) gno rfl (fun b18_5 => ?_)
     refine AV.next (bl 13 511) (by kernel_rfl) (fun _ h => h.sel [] rfl) ?_
     refine AV.u 9 (bl 13 1023) rfl gno (Step.build rfl (Bd385_0_1_2 _ _ _ _ _ _ _ _ _)) rfl (fun _ h => h.sel [] rfl) ?_
     refine AV.all [10] (by kernel_rfl) (by decide) ?_
     refine ⟨⟨_, rfl, ?_⟩, trivial⟩
     ·
      refine OV.box (t := 385) #[_, _, _, _] rfl rfl gno rfl (fun b18_10 => ?_)
      refine AV.next (bl 13 2047) (by kernel_rfl) (fun _ h => h.sel [] rfl) ?_
      refine AV.u 11 (bl 13 4095) rfl gno (Step.assign rfl) rfl (fun _ h => h.sel [] rfl) ?_
      refine AV.u 12 (bl 13 8191) rfl gno (Step.assign rfl) rfl (fun _ h => h.sel [] rfl) ?_
      refine AV.done (by kernel_rfl) ?_
      refine KV.then_n (KV.e2 2 3 (CV.ret ?_))
      refine KV.sel [] [] rfl ?_
      exact KV.ret2 rfl rfl rfl _ (fun _ h => h) ⟨⟨_, rfl⟩, rfl⟩
   ·
    refine OV.make (K := (intK .i64)) (0) (0) (0) Tryz.underlying48 I3 rfl rfl rfl rfl rfl (by omega) (by omega) (by omega) gno rfl (fun b18_5 => ?_)
    refine AV.next (bl 13 507) (by kernel_rfl) (fun _ h => h.sel [] rfl) ?_
    refine AV.all [2] (by kernel_rfl) (by decide) ?_
    refine ⟨⟨_, rfl, ?_⟩, trivial⟩
    ·
     refine OV.append 1 Tryz.underlying84 I364 rfl rfl rfl rfl rfl rfl (fun w h => (RS.nil (K := railK0))) (by simp only [List.length_nil]; omega) (by simp only [List.length_nil]; omega) gno rfl (fun b18_2a b18_2c => ?_)
     refine AV.next (bl 13 511) (by kernel_rfl) (fun _ h => h.sel [] rfl) ?_
     refine AV.u 9 (bl 13 1023) rfl gno (Step.build rfl (Bd385_0_1_2 _ _ _ _ _ _ _ _ _)) rfl (fun _ h => h.sel [] rfl) ?_
     refine AV.all [10] (by kernel_rfl) (by decide) ?_
     refine ⟨⟨_, rfl, ?_⟩, trivial⟩
     ·
      refine OV.box (t := 385) #[_, _, _, _] rfl rfl gno rfl (fun b18_10 => ?_)
      refine AV.next (bl 13 2047) (by kernel_rfl) (fun _ h => h.sel [] rfl) ?_
      refine AV.u 11 (bl 13 4095) rfl gno (Step.assign rfl) rfl (fun _ h => h.sel [] rfl) ?_
      refine AV.u 12 (bl 13 8191) rfl gno (Step.assign rfl) rfl (fun _ h => h.sel [] rfl) ?_
      refine AV.done (by kernel_rfl) ?_
      refine KV.then_n (KV.e2 2 3 (CV.ret ?_))
      refine KV.sel [] [] rfl ?_
      exact KV.ret2 rfl rfl rfl _ (fun _ h => h) ⟨⟨_, rfl⟩, rfl⟩
  ·
   refine OV.make (K := (intK .i64)) (0) (0) (0) Tryz.underlying48 I3 rfl rfl rfl rfl rfl (by omega) (by omega) (by omega) gno rfl (fun b18_5 => ?_)
   refine AV.next (bl 13 506) (by kernel_rfl) (fun _ h => h.sel [] rfl) ?_
   refine AV.all [0] (by kernel_rfl) (by decide) ?_
   refine ⟨⟨_, rfl, ?_⟩, trivial⟩
   ·
    refine OV.buildSlice (K := railK0) ([]) rfl (Bs84_0_) rfl rfl (by omega) gno rfl (fun b18_0 => ?_)
    refine AV.next (bl 13 507) (by kernel_rfl) (fun _ h => h.sel [] rfl) ?_
    refine AV.all [2] (by kernel_rfl) (by decide) ?_
    refine ⟨⟨_, rfl, ?_⟩, trivial⟩
    ·
     refine OV.append 2 Tryz.underlying84 I364 rfl rfl rfl rfl rfl rfl (fun w h => (RS.nil (K := railK0))) (by simp only [List.length_nil]; omega) (by simp only [List.length_nil]; omega) gno rfl (fun b18_2a b18_2c => ?_)
     refine AV.next (bl 13 511) (by kernel_rfl) (fun _ h => h.sel [] rfl) ?_
     refine AV.u 9 (bl 13 1023) rfl gno (Step.build rfl (Bd385_0_1_2 _ _ _ _ _ _ _ _ _)) rfl (fun _ h => h.sel [] rfl) ?_
     refine AV.all [10] (by kernel_rfl) (by decide) ?_
     refine ⟨⟨_, rfl, ?_⟩, trivial⟩
     ·
      refine OV.box (t := 385) #[_, _, _, _] rfl rfl gno rfl (fun b18_10 => ?_)
      refine AV.next (bl 13 2047) (by kernel_rfl) (fun _ h => h.sel [] rfl) ?_
      refine AV.u 11 (bl 13 4095) rfl gno (Step.assign rfl) rfl (fun _ h => h.sel [] rfl) ?_
      refine AV.u 12 (bl 13 8191) rfl gno (Step.assign rfl) rfl (fun _ h => h.sel [] rfl) ?_
      refine AV.done (by kernel_rfl) ?_
      refine KV.then_n (KV.e2 2 3 (CV.ret ?_))
      refine KV.sel [] [] rfl ?_
      exact KV.ret2 rfl rfl rfl _ (fun _ h => h) ⟨⟨_, rfl⟩, rfl⟩

set_option maxRecDepth 100000 in
set_option maxHeartbeats 1000000 in
theorem devNewR0_fn {w : World} : Fx Tryz.prog 129 [.slice none 0 0, .slice none 0 0] w [] no (fun v L => (∃ b, v = .tuple #[.pointer (some ⟨b, 0, none⟩), .int .i64 0]) ∧ L = []) := by
 refine Sv.Fx.body Tryz.func129 rfl T129 rfl ?_
 intro I hro hI
 refine KV.e2 0 1 (CV.seq (CV.region ?_))
 refine RV.a rfl rfl (RV.a rfl rfl ?_)
 refine RV.nil (KV.then_n (KV.e2 0 1 (CV.seq (CV.seq (CV.region ?_)))))
 refine RV.m rfl rfl (RV.m rfl rfl (RV.s (Step.lenSl Tryz.underlying84 rfl) rfl ?_))
 refine RV.op (OV.callP Tryz.func159 B159 N159 rfl (devCheckR0_fn) gno rfl ?_)
 refine RV.a rfl rfl ?_
 refine RV.nil (KV.then_n (KV.e3 0 1 6 (CV.seq (CV.region ?_))))
 refine RV.m rfl rfl (RV.s (Step.neq rfl rfl) rfl ?_)
 refine RV.nil (KV.then_n (KV.e4 0 1 6 16 (CV.cond_f rfl (CV.skip (KV.then_n ?_)))))
 refine KV.e2 0 1 (CV.seq (CV.region ?_))
 refine RV.m rfl rfl ?_
 refine RV.op (OV.call [] (F := []) Tryz.func160 B160 N160 rfl rfl (fun w h => railsNewR0_fn) (fun _ hb => hb.elim) gno rfl (fun v L' hp => ?_))
 obtain ⟨⟨br, rfl⟩, rfl⟩ := hp
 simp only [List.append_nil]
 refine RV.m rfl rfl (RV.s (Step.extract0 rfl rfl) rfl (RV.s (Step.extract0 rfl rfl) rfl (RV.a rfl rfl (RV.a rfl rfl ?_))))
 refine RV.nil (KV.then_n (KV.e3 0 7 8 (CV.seq (CV.seq (CV.region ?_)))))
 refine RV.m rfl rfl (RV.s (Step.neq rfl rfl) rfl ?_)
 refine RV.nil (KV.then_n (KV.e4 0 7 8 24 (CV.cond_f rfl (CV.skip (KV.then_n ?_)))))
 refine KV.e2 0 7 (CV.seq (CV.region ?_))
 refine RV.m rfl rfl (RV.m rfl rfl (RV.s (Step.build rfl (Bd353_0_1 _ _ _ _)) rfl ?_))
 refine RV.op (OV.box (t := 353) #[_, _, _, _] rfl rfl gno rfl (fun b7_3 => ?_))
 refine RV.a rfl rfl ?_
 refine RV.nil (KV.then_n (KV.e2 0 9 (CV.seq (CV.seq (CV.region ?_)))))
 refine RV.a rfl rfl ?_
 refine RV.nil (KV.then_n (KV.e3 0 9 10 (CV.block (KV.e3 0 9 10 ?_))))
 refine CV.loop0 ⟨rfl, rfl, rfl, trivial⟩ (fun _ => ?_)
 refine CV.seq (CV.seq (CV.region ?_))
 refine RV.m rfl rfl (RV.m rfl rfl (RV.s (Step.lenSl Tryz.underlying247 rfl) rfl (RV.s (Step.lss rfl rfl) rfl ?_)))
 refine RV.nil (KV.then_n (KV.e4 0 9 10 33 (CV.cond_f rfl (CV.exit (KV.then_exit ?_)))))
 refine KV.then_exit (KV.block_hit (KV.then_n (KV.e1 9 (CV.seq (CV.region ?_)))))
 refine RV.m rfl rfl (RV.a rfl rfl (RV.a rfl rfl ?_))
 refine RV.nil (KV.then_n (KV.e2 4 5 (CV.ret ?_)))
 refine KV.sel [] [] rfl ?_
 exact KV.ret2 rfl rfl rfl _ (fun _ h => h) ⟨⟨_, rfl⟩, rfl⟩

set_option maxRecDepth 100000 in
set_option maxHeartbeats 1000000 in
theorem rpmNewR0_fn {w : World} : Fx Tryz.prog 130 [.slice none 0 0] w [] no (fun v L => (∃ b, v = .tuple #[.pointer (some ⟨b, 0, none⟩), .int .i64 0]) ∧ L = []) := by
 refine Sv.Fx.body Tryz.func130 rfl T130 rfl ?_
 intro I hro hI
 refine KV.e1 0 (CV.seq (CV.region ?_))
 refine RV.a rfl rfl (RV.a rfl rfl ?_)
 refine RV.nil (KV.then_n (KV.e1 0 (CV.seq (CV.region ?_))))
 refine RV.m rfl rfl (RV.s (Step.lenSl Tryz.underlying248 rfl) rfl (RV.a rfl rfl ?_))
 refine RV.nil (KV.then_n (KV.e2 0 4 (CV.seq (CV.seq (CV.region ?_)))))
 refine RV.m rfl rfl (RV.s (Step.gtr rfl rfl) rfl ?_)
 refine RV.nil (KV.then_n (KV.e3 0 4 13 (CV.cond_f rfl (CV.skip (KV.then_n ?_)))))
 refine KV.e2 0 4 (CV.seq ?_)
 refine CV.any (Hp I w []) (by kernel_rfl) (fun _ h => h.drew) 10 rfl ?_
 refine AV.u 0 (bl 10 1) rfl gno (Step.move rfl) rfl (fun _ h => h.sel [] rfl) ?_
 refine AV.u 1 (bl 10 3) rfl gno (Step.move rfl) rfl (fun _ h => h.sel [] rfl) ?_
 refine AV.u 3 (bl 10 11) rfl gno (Step.move rfl) rfl (fun _ h => h.sel [] rfl) ?_
 refine AV.u 5 (bl 10 43) rfl gno (Step.move rfl) rfl (fun _ h => h.sel [] rfl) ?_
 refine AV.all [2, 4, 6] (by kernel_rfl) (by decide) ?_
 refine ⟨⟨_, rfl, ?_⟩, ⟨⟨_, rfl, ?_⟩, ⟨⟨_, rfl, ?_⟩, trivial⟩⟩⟩
 ·
  refine OV.make (K := bolK) (0) (0) (false) Tryz.underlying202 I4 rfl rfl rfl rfl rfl (by omega) (by omega) (by omega) gno rfl (fun b4_2 => ?_)
  refine AV.next (bl 10 47) (by kernel_rfl) (fun _ h => h.sel [] rfl) ?_
  refine AV.all [4, 6] (by kernel_rfl) (by decide) ?_
  refine ⟨⟨_, rfl, ?_⟩, ⟨⟨_, rfl, ?_⟩, trivial⟩⟩
  ·
   refine OV.make (K := (intK .i64)) (0) (0) (0) Tryz.underlying48 I3 rfl rfl rfl rfl rfl (by omega) (by omega) (by omega) gno rfl (fun b4_4 => ?_)
   refine AV.next (bl 10 63) (by kernel_rfl) (fun _ h => h.sel [] rfl) ?_
   refine AV.all [6] (by kernel_rfl) (by decide) ?_
   refine ⟨⟨_, rfl, ?_⟩, trivial⟩
   ·
    refine OV.make (K := (intK .u64)) (0) (0) (0) Tryz.underlying85 I24 rfl rfl rfl rfl rfl (by omega) (by omega) (by omega) gno rfl (fun b4_6 => ?_)
    refine AV.next (bl 10 127) (by kernel_rfl) (fun _ h => h.sel [] rfl) ?_
    refine AV.u 7 (bl 10 255) rfl gno (Step.build rfl (Bd355_0_2_3_4 _ _ _ _ _ _ _ _ _ _ _ _)) rfl (fun _ h => h.sel [] rfl) ?_
    refine AV.all [8] (by kernel_rfl) (by decide) ?_
    refine ⟨⟨_, rfl, ?_⟩, trivial⟩
    ·
     refine OV.box (t := 355) #[_, _, _, _, _, _] rfl rfl gno rfl (fun b4_8 => ?_)
     refine AV.next (bl 10 511) (by kernel_rfl) (fun _ h => h.sel [] rfl) ?_
     refine AV.u 9 (bl 10 1023) rfl gno (Step.assign rfl) rfl (fun _ h => h.sel [] rfl) ?_
     refine AV.done (by kernel_rfl) ?_
     refine KV.then_n (KV.e3 0 4 5 (CV.seq (CV.seq (CV.region ?_))))
     refine RV.a rfl rfl ?_
     refine RV.nil (KV.then_n (KV.e4 0 4 5 6 (CV.block (KV.e4 0 4 5 6 ?_))))
     refine CV.loop0 ⟨rfl, rfl, rfl, rfl, trivial⟩ (fun _ => ?_)
     refine CV.seq (CV.seq (CV.region ?_))
     refine RV.m rfl rfl (RV.m rfl rfl (RV.s (Step.lss rfl rfl) rfl ?_))
     refine RV.nil (KV.then_n (KV.e5 0 4 5 6 25 (CV.cond_f rfl (CV.exit (KV.then_exit ?_)))))
     refine KV.then_exit (KV.block_hit (KV.then_n (KV.e2 4 5 (CV.seq (CV.seq ?_)))))
     refine CV.region ?_
     refine RV.m rfl rfl (RV.m rfl rfl (RV.s (Step.nilCheck rfl) rfl (RV.s (Step.fieldAddr rfl (F355_1 _ _)) rfl (RV.s (Step.load Tryz.underlying262 rfl rfl (fun w h => h.cell 3 rfl rfl)) rfl ?_))))
     refine RV.op (OV.call [] (F := [_, _, _, _]) Tryz.func161 B161 N161 rfl rfl (fun w h => dgCheckR0_fn) (fun _ hb => hb.elim) gno rfl (fun v L' hp => ?_))
     obtain ⟨rfl, rfl⟩ := hp
     simp only [List.append_nil]
     refine RV.a rfl rfl ?_
     refine RV.nil (KV.then_n (KV.e2 5 9 (CV.seq (CV.region ?_))))
     refine RV.m rfl rfl (RV.s (Step.neq rfl rfl) rfl ?_)
     refine RV.nil (KV.then_n (KV.e3 5 9 113 (CV.cond_f rfl (CV.skip (KV.then_n ?_)))))
     refine KV.e1 5 (CV.seq (CV.region ?_))
     refine RV.m rfl rfl (RV.a rfl rfl (RV.a rfl rfl ?_))
     refine RV.nil (KV.then_n (KV.e2 2 3 (CV.ret ?_)))
     refine KV.sel [] [] rfl ?_
     exact KV.ret2 rfl rfl rfl _ (fun _ h => h) ⟨⟨_, rfl⟩, rfl⟩
  ·
   refine OV.make (K := (intK .u64)) (0) (0) (0) Tryz.underlying85 I24 rfl rfl rfl rfl rfl (by omega) (by omega) (by omega) gno rfl (fun b4_6 => ?_)
   refine AV.next (bl 10 111) (by kernel_rfl) (fun _ h => h.sel [] rfl) ?_
   refine AV.all [4] (by kernel_rfl) (by decide) ?_
   refine ⟨⟨_, rfl, ?_⟩, trivial⟩
   ·
    refine OV.make (K := (intK .i64)) (0) (0) (0) Tryz.underlying48 I3 rfl rfl rfl rfl rfl (by omega) (by omega) (by omega) gno rfl (fun b4_4 => ?_)
    refine AV.next (bl 10 127) (by kernel_rfl) (fun _ h => h.sel [] rfl) ?_
    refine AV.u 7 (bl 10 255) rfl gno (Step.build rfl (Bd355_0_2_3_4 _ _ _ _ _ _ _ _ _ _ _ _)) rfl (fun _ h => h.sel [] rfl) ?_
    refine AV.all [8] (by kernel_rfl) (by decide) ?_
    refine ⟨⟨_, rfl, ?_⟩, trivial⟩
    ·
     refine OV.box (t := 355) #[_, _, _, _, _, _] rfl rfl gno rfl (fun b4_8 => ?_)
     refine AV.next (bl 10 511) (by kernel_rfl) (fun _ h => h.sel [] rfl) ?_
     refine AV.u 9 (bl 10 1023) rfl gno (Step.assign rfl) rfl (fun _ h => h.sel [] rfl) ?_
     refine AV.done (by kernel_rfl) ?_
     refine KV.then_n (KV.e3 0 4 5 (CV.seq (CV.seq (CV.region ?_))))
     refine RV.a rfl rfl ?_
     refine RV.nil (KV.then_n (KV.e4 0 4 5 6 (CV.block (KV.e4 0 4 5 6 ?_))))
     refine CV.loop0 ⟨rfl, rfl, rfl, rfl, trivial⟩ (fun _ => ?_)
     refine CV.seq (CV.seq (CV.region ?_))
     refine RV.m rfl rfl (RV.m rfl rfl (RV.s (Step.lss rfl rfl) rfl ?_))
     refine RV.nil (KV.then_n (KV.e5 0 4 5 6 25 (CV.cond_f rfl (CV.exit (KV.then_exit ?_)))))
     refine KV.then_exit (KV.block_hit (KV.then_n (KV.e2 4 5 (CV.seq (CV.seq ?_)))))
     refine CV.region ?_
     refine RV.m rfl rfl (RV.m rfl rfl (RV.s (Step.nilCheck rfl) rfl (RV.s (Step.fieldAddr rfl (F355_1 _ _)) rfl (RV.s (Step.load Tryz.underlying262 rfl rfl (fun w h => h.cell 3 rfl rfl)) rfl ?_))))
     refine RV.op (OV.call [] (F := [_, _, _, _]) Tryz.func161 B161 N161 rfl rfl (fun w h => dgCheckR0_fn) (fun _ hb => hb.elim) gno rfl (fun v L' hp => ?_))
     obtain ⟨rfl, rfl⟩ := hp
     simp only [List.append_nil]
     refine RV.a rfl rfl ?_
     refine RV.nil (KV.then_n (KV.e2 5 9 (CV.seq (CV.region ?_))))
     refine RV.m rfl rfl (RV.s (Step.neq rfl rfl) rfl ?_)
     refine RV.nil (KV.then_n (KV.e3 5 9 113 (CV.cond_f rfl (CV.skip (KV.then_n ?_)))))
     refine KV.e1 5 (CV.seq (CV.region ?_))
     refine RV.m rfl rfl (RV.a rfl rfl (RV.a rfl rfl ?_))
     refine RV.nil (KV.then_n (KV.e2 2 3 (CV.ret ?_)))
     refine KV.sel [] [] rfl ?_
     exact KV.ret2 rfl rfl rfl _ (fun _ h => h) ⟨⟨_, rfl⟩, rfl⟩
 ·
  refine OV.make (K := (intK .i64)) (0) (0) (0) Tryz.underlying48 I3 rfl rfl rfl rfl rfl (by omega) (by omega) (by omega) gno rfl (fun b4_4 => ?_)
  refine AV.next (bl 10 59) (by kernel_rfl) (fun _ h => h.sel [] rfl) ?_
  refine AV.all [2, 6] (by kernel_rfl) (by decide) ?_
  refine ⟨⟨_, rfl, ?_⟩, ⟨⟨_, rfl, ?_⟩, trivial⟩⟩
  ·
   refine OV.make (K := bolK) (0) (0) (false) Tryz.underlying202 I4 rfl rfl rfl rfl rfl (by omega) (by omega) (by omega) gno rfl (fun b4_2 => ?_)
   refine AV.next (bl 10 63) (by kernel_rfl) (fun _ h => h.sel [] rfl) ?_
   refine AV.all [6] (by kernel_rfl) (by decide) ?_
   refine ⟨⟨_, rfl, ?_⟩, trivial⟩
   ·
    refine OV.make (K := (intK .u64)) (0) (0) (0) Tryz.underlying85 I24 rfl rfl rfl rfl rfl (by omega) (by omega) (by omega) gno rfl (fun b4_6 => ?_)
    refine AV.next (bl 10 127) (by kernel_rfl) (fun _ h => h.sel [] rfl) ?_
    refine AV.u 7 (bl 10 255) rfl gno (Step.build rfl (Bd355_0_2_3_4 _ _ _ _ _ _ _ _ _ _ _ _)) rfl (fun _ h => h.sel [] rfl) ?_
    refine AV.all [8] (by kernel_rfl) (by decide) ?_
    refine ⟨⟨_, rfl, ?_⟩, trivial⟩
    ·
     refine OV.box (t := 355) #[_, _, _, _, _, _] rfl rfl gno rfl (fun b4_8 => ?_)
     refine AV.next (bl 10 511) (by kernel_rfl) (fun _ h => h.sel [] rfl) ?_
     refine AV.u 9 (bl 10 1023) rfl gno (Step.assign rfl) rfl (fun _ h => h.sel [] rfl) ?_
     refine AV.done (by kernel_rfl) ?_
     refine KV.then_n (KV.e3 0 4 5 (CV.seq (CV.seq (CV.region ?_))))
     refine RV.a rfl rfl ?_
     refine RV.nil (KV.then_n (KV.e4 0 4 5 6 (CV.block (KV.e4 0 4 5 6 ?_))))
     refine CV.loop0 ⟨rfl, rfl, rfl, rfl, trivial⟩ (fun _ => ?_)
     refine CV.seq (CV.seq (CV.region ?_))
     refine RV.m rfl rfl (RV.m rfl rfl (RV.s (Step.lss rfl rfl) rfl ?_))
     refine RV.nil (KV.then_n (KV.e5 0 4 5 6 25 (CV.cond_f rfl (CV.exit (KV.then_exit ?_)))))
     refine KV.then_exit (KV.block_hit (KV.then_n (KV.e2 4 5 (CV.seq (CV.seq ?_)))))
     refine CV.region ?_
     refine RV.m rfl rfl (RV.m rfl rfl (RV.s (Step.nilCheck rfl) rfl (RV.s (Step.fieldAddr rfl (F355_1 _ _)) rfl (RV.s (Step.load Tryz.underlying262 rfl rfl (fun w h => h.cell 3 rfl rfl)) rfl ?_))))
     refine RV.op (OV.call [] (F := [_, _, _, _]) Tryz.func161 B161 N161 rfl rfl (fun w h => dgCheckR0_fn) (fun _ hb => hb.elim) gno rfl (fun v L' hp => ?_))
     obtain ⟨rfl, rfl⟩ := hp
     simp only [List.append_nil]
     refine RV.a rfl rfl ?_
     refine RV.nil (KV.then_n (KV.e2 5 9 (CV.seq (CV.region ?_))))
     refine RV.m rfl rfl (RV.s (Step.neq rfl rfl) rfl ?_)
     refine RV.nil (KV.then_n (KV.e3 5 9 113 (CV.cond_f rfl (CV.skip (KV.then_n ?_)))))
     refine KV.e1 5 (CV.seq (CV.region ?_))
     refine RV.m rfl rfl (RV.a rfl rfl (RV.a rfl rfl ?_))
     refine RV.nil (KV.then_n (KV.e2 2 3 (CV.ret ?_)))
     refine KV.sel [] [] rfl ?_
     exact KV.ret2 rfl rfl rfl _ (fun _ h => h) ⟨⟨_, rfl⟩, rfl⟩
  ·
   refine OV.make (K := (intK .u64)) (0) (0) (0) Tryz.underlying85 I24 rfl rfl rfl rfl rfl (by omega) (by omega) (by omega) gno rfl (fun b4_6 => ?_)
   refine AV.next (bl 10 123) (by kernel_rfl) (fun _ h => h.sel [] rfl) ?_
   refine AV.all [2] (by kernel_rfl) (by decide) ?_
   refine ⟨⟨_, rfl, ?_⟩, trivial⟩
   ·
    refine OV.make (K := bolK) (0) (0) (false) Tryz.underlying202 I4 rfl rfl rfl rfl rfl (by omega) (by omega) (by omega) gno rfl (fun b4_2 => ?_)
    refine AV.next (bl 10 127) (by kernel_rfl) (fun _ h => h.sel [] rfl) ?_
    refine AV.u 7 (bl 10 255) rfl gno (Step.build rfl (Bd355_0_2_3_4 _ _ _ _ _ _ _ _ _ _ _ _)) rfl (fun _ h => h.sel [] rfl) ?_
    refine AV.all [8] (by kernel_rfl) (by decide) ?_
    refine ⟨⟨_, rfl, ?_⟩, trivial⟩
    ·
     refine OV.box (t := 355) #[_, _, _, _, _, _] rfl rfl gno rfl (fun b4_8 => ?_)
     refine AV.next (bl 10 511) (by kernel_rfl) (fun _ h => h.sel [] rfl) ?_
     refine AV.u 9 (bl 10 1023) rfl gno (Step.assign rfl) rfl (fun _ h => h.sel [] rfl) ?_
     refine AV.done (by kernel_rfl) ?_
     refine KV.then_n (KV.e3 0 4 5 (CV.seq (CV.seq (CV.region ?_))))
     refine RV.a rfl rfl ?_
     refine RV.nil (KV.then_n (KV.e4 0 4 5 6 (CV.block (KV.e4 0 4 5 6 ?_))))
     refine CV.loop0 ⟨rfl, rfl, rfl, rfl, trivial⟩ (fun _ => ?_)
     refine CV.seq (CV.seq (CV.region ?_))
     refine RV.m rfl rfl (RV.m rfl rfl (RV.s (Step.lss rfl rfl) rfl ?_))
     refine RV.nil (KV.then_n (KV.e5 0 4 5 6 25 (CV.cond_f rfl (CV.exit (KV.then_exit ?_)))))
     refine KV.then_exit (KV.block_hit (KV.then_n (KV.e2 4 5 (CV.seq (CV.seq ?_)))))
     refine CV.region ?_
     refine RV.m rfl rfl (RV.m rfl rfl (RV.s (Step.nilCheck rfl) rfl (RV.s (Step.fieldAddr rfl (F355_1 _ _)) rfl (RV.s (Step.load Tryz.underlying262 rfl rfl (fun w h => h.cell 3 rfl rfl)) rfl ?_))))
     refine RV.op (OV.call [] (F := [_, _, _, _]) Tryz.func161 B161 N161 rfl rfl (fun w h => dgCheckR0_fn) (fun _ hb => hb.elim) gno rfl (fun v L' hp => ?_))
     obtain ⟨rfl, rfl⟩ := hp
     simp only [List.append_nil]
     refine RV.a rfl rfl ?_
     refine RV.nil (KV.then_n (KV.e2 5 9 (CV.seq (CV.region ?_))))
     refine RV.m rfl rfl (RV.s (Step.neq rfl rfl) rfl ?_)
     refine RV.nil (KV.then_n (KV.e3 5 9 113 (CV.cond_f rfl (CV.skip (KV.then_n ?_)))))
     refine KV.e1 5 (CV.seq (CV.region ?_))
     refine RV.m rfl rfl (RV.a rfl rfl (RV.a rfl rfl ?_))
     refine RV.nil (KV.then_n (KV.e2 2 3 (CV.ret ?_)))
     refine KV.sel [] [] rfl ?_
     exact KV.ret2 rfl rfl rfl _ (fun _ h => h) ⟨⟨_, rfl⟩, rfl⟩
 ·
  refine OV.make (K := (intK .u64)) (0) (0) (0) Tryz.underlying85 I24 rfl rfl rfl rfl rfl (by omega) (by omega) (by omega) gno rfl (fun b4_6 => ?_)
  refine AV.next (bl 10 107) (by kernel_rfl) (fun _ h => h.sel [] rfl) ?_
  refine AV.all [2, 4] (by kernel_rfl) (by decide) ?_
  refine ⟨⟨_, rfl, ?_⟩, ⟨⟨_, rfl, ?_⟩, trivial⟩⟩
  ·
   refine OV.make (K := bolK) (0) (0) (false) Tryz.underlying202 I4 rfl rfl rfl rfl rfl (by omega) (by omega) (by omega) gno rfl (fun b4_2 => ?_)
   refine AV.next (bl 10 111) (by kernel_rfl) (fun _ h => h.sel [] rfl) ?_
   refine AV.all [4] (by kernel_rfl) (by decide) ?_
   refine ⟨⟨_, rfl, ?_⟩, trivial⟩
   ·
    refine OV.make (K := (intK .i64)) (0) (0) (0) Tryz.underlying48 I3 rfl rfl rfl rfl rfl (by omega) (by omega) (by omega) gno rfl (fun b4_4 => ?_)
    refine AV.next (bl 10 127) (by kernel_rfl) (fun _ h => h.sel [] rfl) ?_
    refine AV.u 7 (bl 10 255) rfl gno (Step.build rfl (Bd355_0_2_3_4 _ _ _ _ _ _ _ _ _ _ _ _)) rfl (fun _ h => h.sel [] rfl) ?_
    refine AV.all [8] (by kernel_rfl) (by decide) ?_
    refine ⟨⟨_, rfl, ?_⟩, trivial⟩
    ·
     refine OV.box (t := 355) #[_, _, _, _, _, _] rfl rfl gno rfl (fun b4_8 => ?_)
     refine AV.next (bl 10 511) (by kernel_rfl) (fun _ h => h.sel [] rfl) ?_
     refine AV.u 9 (bl 10 1023) rfl gno (Step.assign rfl) rfl (fun _ h => h.sel [] rfl) ?_
     refine AV.done (by kernel_rfl) ?_
     refine KV.then_n (KV.e3 0 4 5 (CV.seq (CV.seq (CV.region ?_))))
     refine RV.a rfl rfl ?_
     refine RV.nil (KV.then_n (KV.e4 0 4 5 6 (CV.block (KV.e4 0 4 5 6 ?_))))
     refine CV.loop0 ⟨rfl, rfl, rfl, rfl, trivial⟩ (fun _ => ?_)
     refine CV.seq (CV.seq (CV.region ?_))
     refine RV.m rfl rfl (RV.m rfl rfl (RV.s (Step.lss rfl rfl) rfl ?_))
     refine RV.nil (KV.then_n (KV.e5 0 4 5 6 25 (CV.cond_f rfl (CV.exit (KV.then_exit ?_)))))
     refine KV.then_exit (KV.block_hit (KV.then_n (KV.e2 4 5 (CV.seq (CV.seq ?_)))))
     refine CV.region ?_
     refine RV.m rfl rfl (RV.m rfl rfl (RV.s (Step.nilCheck rfl) rfl (RV.s (Step.fieldAddr rfl (F355_1 _ _)) rfl (RV.s (Step.load Tryz.underlying262 rfl rfl (fun w h => h.cell 3 rfl rfl)) rfl ?_))))
     refine RV.op (OV.call [] (F := [_, _, _, _]) Tryz.func161 B161 N161 rfl rfl (fun w h => dgCheckR0_fn) (fun _ hb => hb.elim) gno rfl (fun v L' hp => ?_))
     obtain ⟨rfl, rfl⟩ := hp
     simp only [List.append_nil]
     refine RV.a rfl rfl ?_
     refine RV.nil (KV.then_n (KV.e2 5 9 (CV.seq (CV.region ?_))))
     refine RV.m rfl rfl (RV.s (Step.neq rfl rfl) rfl ?_)
     refine RV.nil (KV.then_n (KV.e3 5 9 113 (CV.cond_f rfl (CV.skip (KV.then_n ?_)))))
     refine KV.e1 5 (CV.seq (CV.region ?_))
     refine RV.m rfl rfl (RV.a rfl rfl (RV.a rfl rfl ?_))
     refine RV.nil (KV.then_n (KV.e2 2 3 (CV.ret ?_)))
     refine KV.sel [] [] rfl ?_
     exact KV.ret2 rfl rfl rfl _ (fun _ h => h) ⟨⟨_, rfl⟩, rfl⟩
  ·
   refine OV.make (K := (intK .i64)) (0) (0) (0) Tryz.underlying48 I3 rfl rfl rfl rfl rfl (by omega) (by omega) (by omega) gno rfl (fun b4_4 => ?_)
   refine AV.next (bl 10 123) (by kernel_rfl) (fun _ h => h.sel [] rfl) ?_
   refine AV.all [2] (by kernel_rfl) (by decide) ?_
   refine ⟨⟨_, rfl, ?_⟩, trivial⟩
   ·
    refine OV.make (K := bolK) (0) (0) (false) Tryz.underlying202 I4 rfl rfl rfl rfl rfl (by omega) (by omega) (by omega) gno rfl (fun b4_2 => ?_)
    refine AV.next (bl 10 127) (by kernel_rfl) (fun _ h => h.sel [] rfl) ?_
    refine AV.u 7 (bl 10 255) rfl gno (Step.build rfl (Bd355_0_2_3_4 _ _ _ _ _ _ _ _ _ _ _ _)) rfl (fun _ h => h.sel [] rfl) ?_
    refine AV.all [8] (by kernel_rfl) (by decide) ?_
    refine ⟨⟨_, rfl, ?_⟩, trivial⟩
    ·
     refine OV.box (t := 355) #[_, _, _, _, _, _] rfl rfl gno rfl (fun b4_8 => ?_)
     refine AV.next (bl 10 511) (by kernel_rfl) (fun _ h => h.sel [] rfl) ?_
     refine AV.u 9 (bl 10 1023) rfl gno (Step.assign rfl) rfl (fun _ h => h.sel [] rfl) ?_
     refine AV.done (by kernel_rfl) ?_
     refine KV.then_n (KV.e3 0 4 5 (CV.seq (CV.seq (CV.region ?_))))
     refine RV.a rfl rfl ?_
     refine RV.nil (KV.then_n (KV.e4 0 4 5 6 (CV.block (KV.e4 0 4 5 6 ?_))))
     refine CV.loop0 ⟨rfl, rfl, rfl, rfl, trivial⟩ (fun _ => ?_)
     refine CV.seq (CV.seq (CV.region ?_))
     refine RV.m rfl rfl (RV.m rfl rfl (RV.s (Step.lss rfl rfl) rfl ?_))
     refine RV.nil (KV.then_n (KV.e5 0 4 5 6 25 (CV.cond_f rfl (CV.exit (KV.then_exit ?_)))))
     refine KV.then_exit (KV.block_hit (KV.then_n (KV.e2 4 5 (CV.seq (CV.seq ?_)))))
     refine CV.region ?_
     refine RV.m rfl rfl (RV.m rfl rfl (RV.s (Step.nilCheck rfl) rfl (RV.s (Step.fieldAddr rfl (F355_1 _ _)) rfl (RV.s (Step.load Tryz.underlying262 rfl rfl (fun w h => h.cell 3 rfl rfl)) rfl ?_))))
     refine RV.op (OV.call [] (F := [_, _, _, _]) Tryz.func161 B161 N161 rfl rfl (fun w h => dgCheckR0_fn) (fun _ hb => hb.elim) gno rfl (fun v L' hp => ?_))
     obtain ⟨rfl, rfl⟩ := hp
     simp only [List.append_nil]
     refine RV.a rfl rfl ?_
     refine RV.nil (KV.then_n (KV.e2 5 9 (CV.seq (CV.region ?_))))
     refine RV.m rfl rfl (RV.s (Step.neq rfl rfl) rfl ?_)
     refine RV.nil (KV.then_n (KV.e3 5 9 113 (CV.cond_f rfl (CV.skip (KV.then_n ?_)))))
     refine KV.e1 5 (CV.seq (CV.region ?_))
     refine RV.m rfl rfl (RV.a rfl rfl (RV.a rfl rfl ?_))
     refine RV.nil (KV.then_n (KV.e2 2 3 (CV.ret ?_)))
     refine KV.sel [] [] rfl ?_
     exact KV.ret2 rfl rfl rfl _ (fun _ h => h) ⟨⟨_, rfl⟩, rfl⟩

set_option maxRecDepth 100000 in
set_option maxHeartbeats 1000000 in
theorem validDev0_fn {w : World} : Fx Tryz.prog 123 [.slice none 0 0, .slice none 0 0, .slice none 0 0] w [] no (fun v L => v = .bool true ∧ L = []) := by
 refine Sv.Fx.body Tryz.func123 rfl T123 rfl ?_
 intro I hro hI
 refine KV.e3 0 1 2 (CV.seq (CV.region ?_))
 refine RV.a rfl rfl ?_
 refine RV.nil (KV.then_n (KV.e3 0 1 2 (CV.seq (CV.seq (CV.region ?_)))))
 refine RV.m rfl rfl (RV.s (Step.lenSl Tryz.underlying83 rfl) rfl (RV.s (Step.gtr rfl rfl) rfl (RV.m rfl rfl (RV.gw rfl (Step.move rfl) rfl (RV.gw rfl (Step.lenSl Tryz.underlying83 rfl) rfl (RV.gw rfl (Step.move rfl) rfl (RV.gw rfl (Step.lenSl Tryz.underlying85 rfl) rfl ?_)))))))
 refine RV.gw rfl (Step.neq rfl rfl) rfl (RV.s (Step.pick_f rfl rfl) rfl (RV.m rfl rfl (RV.gw rfl (Step.move rfl) rfl ?_)))
 refine RV.op (OV.callP Tryz.func149 B149 N149 rfl (alignedR0_fn) (gyes rfl) rfl ?_)
 refine RV.gw rfl (Step.not rfl) rfl (RV.s (Step.pick_f rfl rfl) rfl ?_)
 refine RV.nil (KV.then_n (KV.e3 0 1 32 (CV.cond_f rfl (CV.skip (KV.then_n ?_)))))
 refine KV.e2 0 1 (CV.seq (CV.region ?_))
 refine RV.a rfl rfl ?_
 refine RV.nil (KV.then_n (KV.e3 0 1 7 (CV.seq (CV.region ?_))))
 refine RV.a rfl rfl ?_
 refine RV.nil (KV.then_n (KV.e4 0 1 7 8 (CV.seq (CV.seq (CV.region ?_)))))
 refine RV.a rfl rfl ?_
 refine RV.nil (KV.then_n (KV.e5 0 1 7 8 9 (CV.block (KV.e5 0 1 7 8 9 ?_))))
 refine CV.loop0 ⟨rfl, rfl, rfl, rfl, rfl, trivial⟩ (fun _ => ?_)
 refine CV.seq (CV.seq (CV.region ?_))
 refine RV.m rfl rfl (RV.m rfl rfl (RV.s (Step.lenSl Tryz.underlying83 rfl) rfl (RV.s (Step.lss rfl rfl) rfl ?_)))
 refine RV.nil (KV.then_n (KV.e6 0 1 7 8 9 36 (CV.cond_f rfl (CV.exit (KV.then_exit ?_)))))
 refine KV.then_exit (KV.block_hit (KV.then_n (KV.e3 1 7 8 (CV.seq (CV.region ?_)))))
 refine RV.m rfl rfl (RV.m rfl rfl ?_)
 refine RV.op (OV.call [] (F := []) Tryz.func129 B129 N129 rfl rfl (fun w h => devNewR0_fn) (fun _ hb => hb.elim) gno rfl (fun v L' hp => ?_))
 obtain ⟨⟨bd, rfl⟩, rfl⟩ := hp
 simp only [List.append_nil]
 refine RV.m rfl rfl (RV.s (Step.extract0 rfl rfl) rfl (RV.s (Step.extract0 rfl rfl) rfl (RV.a rfl rfl (RV.a rfl rfl ?_))))
 refine RV.nil (KV.then_n (KV.e2 8 15 (CV.seq (CV.region ?_))))
 refine RV.m rfl rfl ?_
 refine RV.op (OV.call [] (F := []) Tryz.func130 B130 N130 rfl rfl (fun w h => rpmNewR0_fn) (fun _ hb => hb.elim) gno rfl (fun v L' hp => ?_))
 obtain ⟨⟨bm, rfl⟩, rfl⟩ := hp
 simp only [List.append_nil]
 refine RV.m rfl rfl (RV.s (Step.extract0 rfl rfl) rfl (RV.s (Step.extract0 rfl rfl) rfl (RV.a rfl rfl (RV.a rfl rfl ?_))))
 refine RV.nil (KV.then_n (KV.e2 15 17 (CV.seq (CV.region ?_))))
 refine RV.m rfl rfl (RV.s (Step.eql rfl rfl) rfl (RV.m rfl rfl (RV.gw rfl (Step.move rfl) rfl (RV.gw rfl (Step.eql rfl rfl) rfl (RV.s (Step.pick_t rfl rfl) rfl (RV.a rfl rfl ?_))))))
 refine RV.nil (KV.then_n (KV.e1 6 (CV.ret ?_)))
 refine KV.sel [] [] rfl ?_
 exact KV.ret1 rfl rfl _ (fun _ h => h) ⟨rfl, rfl⟩
end Go.Proofs.YtdfkpdcpegcieaaGreatDoor
