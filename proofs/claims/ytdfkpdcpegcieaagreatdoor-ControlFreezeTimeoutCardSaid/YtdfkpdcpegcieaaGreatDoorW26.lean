/-
 Walks, part 26.
-/
import Derived.Test.YtdfkpdcpegcieaaGreatDoorTab26
import Derived.Test.YtdfkpdcpegcieaaGreatDoorW25
import Derived.Test.YtdfkpdcpegcieaaGreatDoorW21
set_option linter.unusedSimpArgs false
set_option linter.unusedVariables false
namespace Go.Proofs.YtdfkpdcpegcieaaGreatDoor
open Go.Sv Go.Perf Go.Ctl
set_option maxRecDepth 100000 in
set_option maxHeartbeats 4000000 in
theorem dusk0_fn {w : World} : Fx Tryz.prog 26 [.agg #[.slice none 0 0, .slice none 0 0, .slice none 0 0]] w [] no (fun v L => ∃ b tp mp bp q cc A c s w0 f fA tt vv gg, v = .tuple #[.agg #[.pointer (some ⟨b, 0, none⟩), .pointer (some bp), .pointer (some q), .pointer (some cc), .int .i64 0, .pointer (some ⟨s, 0, none⟩), .pointer (some ⟨w0, 0, none⟩), .pointer (some ⟨f, 0, none⟩), .pointer (some ⟨tt, 0, none⟩), .pointer (some ⟨vv, 0, none⟩), .pointer (some ⟨gg, 0, none⟩)], .bool true] ∧ L = [Blk s (.cells (slC (some ⟨b, 0, none⟩) (some ⟨w0, 0, none⟩) (some ⟨f, 0, none⟩) none 1 0 0 0) 151 (0, 0)), Blk w0 (.cells (srcA 3 false 0) 188 (0, 0)), Blk b (.cells #[.slice none 0 0, .pointer (some tp), .pointer (some mp), .pointer (some bp), .slice A 0 c] 170 (0, 0)), Blk f (.cells (frC 0 0 0 fA 3 3) 148 (0, 0)), OS 24 (intK .u64) fA 3 (List.replicate 3 0)]) := by
 refine Sv.Fx.body Tryz.func26 rfl T26 rfl ?_
 intro I hro hI
 refine KV.e1 0 (CV.seq (CV.region ?_))
 refine RV.op (OV.box (t := 87) #[_, _, _] rfl rfl gno rfl (fun b0_0 => ?_))
 refine RV.op (OV.alloc #[.pointer none, .pointer none, .pointer none, .pointer none, .int .i64 0, .pointer none, .pointer none, .pointer none, .pointer none, .pointer none, .pointer none] I80 rfl gno rfl (fun b0_1 => ?_))
 refine RV.a rfl rfl ?_
 refine RV.nil (KV.then_n (KV.e2 1 2 (CV.seq (CV.region ?_))))
 refine RV.s (Step.loadN _ Tryz.underlying87 rfl I87 rfl rfl (fun w h => h.cells 0 rfl)) rfl ?_
 refine RV.op (OV.call [] (F := [_, _]) Tryz.func55 B55 N55 rfl rfl (fun w h => start0_fn) (fun _ hb => hb.elim) gno rfl (fun v L' hp => ?_))
 obtain ⟨b, tp, mp, bp, q, cc, Ap, cp, rfl, rfl⟩ := hp
 refine RV.m rfl rfl (RV.s (Step.extract0 rfl rfl) rfl (RV.s (Step.extract0 rfl rfl) rfl ?_))
 refine RV.op (OV.alloc #[.pointer none, .pointer none, .pointer none, .pointer none, .int .i64 0] I72 rfl gno rfl (fun b1_5 => ?_))
 refine RV.op (OV.store 3 [_, _, _, _, _] #[_, _, _, _, _] I72 rfl rfl rfl rfl rfl (Nat.le_of_ble_eq_true rfl) (by simp [Value.oneCell']) rfl gno ?_)
 refine RV.a rfl rfl ?_
 refine RV.nil (KV.then_n (KV.e3 2 4 5 (CV.seq (CV.region ?_))))
 refine RV.op (OV.call [] (F := [_, _, _, _]) Tryz.func34 B34 N34 rfl rfl (fun w h => srcNew_fn 3 (by decide)) (fun _ hb => hb.elim) gno rfl (fun v L' hp => ?_))
 obtain ⟨w0, rfl, rfl⟩ := hp
 refine RV.m rfl rfl (RV.s (Step.extract0 rfl rfl) rfl (RV.s (Step.extract0 rfl rfl) rfl (RV.a rfl rfl (RV.a rfl rfl ?_))))
 refine RV.nil (KV.then_n (KV.e5 2 4 5 6 7 (CV.seq (CV.region ?_))))
 refine RV.op (OV.call [] (F := [_, _, _, _, _]) Tryz.func35 B35 N35 rfl rfl (fun w h => frNew_fn 3 (by decide)) (fun _ hb => hb.elim) gno rfl (fun v L' hp => ?_))
 obtain ⟨f, fA, rfl, rfl⟩ := hp
 refine RV.m rfl rfl (RV.s (Step.extract0 rfl rfl) rfl (RV.s (Step.extract0 rfl rfl) rfl (RV.a rfl rfl (RV.a rfl rfl ?_))))
 refine RV.nil (KV.then_n (KV.e7 2 4 5 6 7 8 9 (CV.seq (CV.region ?_))))
 refine RV.op (OV.call [] (F := [_, _, _, _, _, _, _]) Tryz.func56 B56 N56 rfl rfl (fun w h => srcRefNew_fn 3 (by decide)) (fun _ hb => hb.elim) gno rfl (fun v L' hp => ?_))
 obtain ⟨⟨vv, rfl⟩, rfl⟩ := hp
 simp only [List.append_nil]
 refine RV.m rfl rfl (RV.s (Step.extract0 rfl rfl) rfl (RV.s (Step.extract0 rfl rfl) rfl (RV.a rfl rfl (RV.a rfl rfl ?_))))
 refine RV.nil (KV.then_n (KV.e8 2 4 5 6 7 8 9 10 (CV.seq (CV.region ?_))))
 refine RV.op (OV.call [] (F := [_, _, _, _, _, _, _]) Tryz.func57 B57 N57 rfl rfl (fun w h => frRefNew_fn 3 (by decide)) (fun _ hb => hb.elim) gno rfl (fun v L' hp => ?_))
 obtain ⟨⟨gg, rfl⟩, rfl⟩ := hp
 simp only [List.append_nil]
 refine RV.m rfl rfl (RV.s (Step.extract0 rfl rfl) rfl (RV.s (Step.extract0 rfl rfl) rfl (RV.a rfl rfl (RV.a rfl rfl ?_))))
 refine RV.nil (KV.then_n (KV.e9 2 4 5 6 7 8 9 10 12 (CV.seq (CV.seq (CV.region ?_)))))
 refine RV.m rfl rfl (RV.s (Step.not rfl) rfl (RV.m rfl rfl (RV.gw rfl (Step.move rfl) rfl (RV.gw rfl (Step.neq rfl rfl) rfl (RV.s (Step.pick_f rfl rfl) rfl (RV.m rfl rfl (RV.gw rfl (Step.move rfl) rfl ?_)))))))
 refine RV.gw rfl (Step.neq rfl rfl) rfl (RV.s (Step.pick_f rfl rfl) rfl (RV.m rfl rfl (RV.gw rfl (Step.move rfl) rfl (RV.gw rfl (Step.eqlP Tryz.underlying74 rfl rfl) rfl (RV.s (Step.pick_f rfl rfl) rfl (RV.m rfl rfl (RV.gw rfl (Step.move rfl) rfl ?_)))))))
 refine RV.gw rfl (Step.eqlP Tryz.underlying75 rfl rfl) rfl (RV.s (Step.pick_f rfl rfl) rfl ?_)
 refine RV.nil (KV.then_n (KV.e7 2 4 6 8 10 12 53 (CV.cond_f rfl (CV.skip (KV.then_n ?_)))))
 refine KV.e6 2 4 6 8 10 12 (CV.seq (CV.region ?_))
 refine RV.s (Step.loadN _ Tryz.underlying72 rfl I72 rfl rfl (fun w h => h.cells 3 rfl)) rfl (RV.m rfl rfl (RV.m rfl rfl (RV.m rfl rfl (RV.m rfl rfl (RV.s (Step.build rfl (Bd80_0_2_3_5_6 _ _ _ _ _ _ _ _ _)) rfl ?_)))))
 refine RV.op (OV.alloc #[.pointer none, .pointer none, .pointer none, .pointer none, .int .i64 0, .pointer none, .pointer none, .pointer none, .pointer none, .pointer none, .pointer none] I80 rfl gno rfl (fun b8_6 => ?_))
 refine RV.op (OV.store 7 [_, _, _, _, _, _, _, _, _, _, _] #[_, _, _, _, _, _, _, _, _, _, _] I80 rfl rfl rfl rfl rfl (Nat.le_of_ble_eq_true rfl) (by simp [Value.oneCell']) rfl gno ?_)
 refine RV.nil (KV.then_n (KV.e7 2 4 6 8 10 12 14 (CV.seq ?_)))
 refine CV.any (Hp I w [Blk b1_5 (.cells #[.pointer (some ⟨b, 0, none⟩), .pointer (some bp), .pointer (some q), .pointer (some cc), .int .i64 0] 72 (0, 0))]) (by kernel_rfl) (fun _ h => h.drew) 14 rfl ?_
 refine AV.u 0 (bl 14 1) rfl gno (Step.fieldAddr rfl (F72_0 _ _)) rfl (fun _ h => h.sel [3] rfl) ?_
 refine AV.u 1 (bl 14 3) rfl gno (Step.load Tryz.underlying67 rfl rfl (fun w h => h.cell 0 rfl rfl)) rfl (fun _ h => h.sel [3] rfl) ?_
 refine AV.u 2 (bl 14 7) rfl gno (Step.move rfl) rfl (fun _ h => h.sel [3] rfl) ?_
 refine AV.u 3 (bl 14 15) rfl gno (Step.move rfl) rfl (fun _ h => h.sel [3] rfl) ?_
 refine AV.u 5 (bl 14 47) rfl gno (Step.fieldAddr rfl (F72_2 _ _)) rfl (fun _ h => h.sel [3] rfl) ?_
 refine AV.u 6 (bl 14 111) rfl gno (Step.load Tryz.underlying69 rfl rfl (fun w h => h.cell 0 rfl rfl)) rfl (fun _ h => h.sel [3] rfl) ?_
 refine AV.u 7 (bl 14 239) rfl gno (Step.move rfl) rfl (fun _ h => h.sel [3] rfl) ?_
 refine AV.u 8 (bl 14 495) rfl gno (Step.move rfl) rfl (fun _ h => h.sel [3] rfl) ?_
 refine AV.all [4] (by kernel_rfl) (by decide) ?_
 refine ⟨⟨_, rfl, ?_⟩, trivial⟩
 ·
  refine OV.call [] (F := [_, _, _, _, _, _, _, _]) Tryz.func36 B36 N36 rfl rfl (fun w h => sleepNew_fn _ _ _) (fun _ hb => hb.elim) gno rfl (fun v L' hp => ?_)
  obtain ⟨s, rfl, rfl⟩ := hp
  refine AV.next (bl 14 511) (by kernel_rfl) (fun _ h => h.sel [3] rfl) ?_
  refine AV.u 10 (bl 14 1535) rfl gno (Step.fieldAddr rfl (F80_1 _ _)) rfl (fun _ h => h.sel [3] rfl) ?_
  refine AV.all [9] (by kernel_rfl) (by decide) ?_
  refine ⟨⟨_, rfl, ?_⟩, trivial⟩
  ·
   refine OV.call [] (F := [_, _, _, _, _, _, _, _, _]) Tryz.func58 B58 N58 rfl rfl (fun w h => sleepRefNew_fn _ _ _) (fun _ hb => hb.elim) gno rfl (fun v L' hp => ?_)
   obtain ⟨⟨tt, rfl⟩, rfl⟩ := hp
   simp only [List.append_nil]
   refine AV.next (bl 14 2047) (by kernel_rfl) (fun _ h => h.sel [3] rfl) ?_
   refine AV.all [11] (by kernel_rfl) (by decide) ?_
   refine ⟨⟨_, rfl, ?_⟩, trivial⟩
   ·
    refine OV.store 7 [_] #[_, _, _, _, _, _, _, _, _, _, _] I73 rfl rfl rfl rfl rfl (Nat.le_of_ble_eq_true rfl) (by simp [Value.oneCell']) rfl gno ?_
    refine AV.next (bl 14 4095) (by kernel_rfl) (fun _ h => h.sel [3] rfl) ?_
    refine AV.u 12 (bl 14 8191) rfl gno (Step.fieldAddr rfl (F80_4 _ _)) rfl (fun _ h => h.sel [3] rfl) ?_
    refine AV.all [13] (by kernel_rfl) (by decide) ?_
    refine ⟨⟨_, rfl, ?_⟩, trivial⟩
    ·
     refine OV.store 7 [_] #[_, _, _, _, _, _, _, _, _, _, _] I76 rfl rfl rfl rfl rfl (Nat.le_of_ble_eq_true rfl) (by simp [Value.oneCell']) rfl gno ?_
     refine AV.next (bl 14 16383) (by kernel_rfl) (fun _ h => h.sel [3] rfl) ?_
     refine AV.done (by kernel_rfl) ?_
     refine KV.then_n (KV.e2 2 14 (CV.seq ?_))
     refine CV.any (Hp I w [Blk b8_6 (.cells #[.pointer (some ⟨b, 0, none⟩), .pointer (some bp), .pointer (some q), .pointer (some cc), .int .i64 0, .pointer (some ⟨s, 0, none⟩), .pointer (some ⟨w0, 0, none⟩), .pointer (some ⟨f, 0, none⟩), .pointer (some ⟨tt, 0, none⟩), .pointer (some ⟨vv, 0, none⟩), .pointer (some ⟨gg, 0, none⟩)] 80 (0, 0))]) (by kernel_rfl) (fun _ h => h.drew) 6 rfl ?_
     refine AV.u 0 (bl 6 1) rfl gno (Step.loadN _ Tryz.underlying80 rfl I80 rfl rfl (fun w h => h.cells 0 rfl)) rfl (fun _ h => h.sel [7] rfl) ?_
     refine AV.u 1 (bl 6 3) rfl gno (Step.fieldAddr rfl (F80_1 _ _)) rfl (fun _ h => h.sel [7] rfl) ?_
     refine AV.u 2 (bl 6 7) rfl gno (Step.load Tryz.underlying73 rfl rfl (fun w h => h.cell 0 rfl rfl)) rfl (fun _ h => h.sel [7] rfl) ?_
     refine AV.u 3 (bl 6 15) rfl gno (Step.neqP Tryz.underlying73 rfl rfl) rfl (fun _ h => h.sel [7] rfl) ?_
     refine AV.all [4] (by kernel_rfl) (by decide) ?_
     refine ⟨⟨_, rfl, ?_⟩, trivial⟩
     ·
      refine OV.store 1 [_, _, _, _, _, _, _, _, _, _, _] #[_, _, _, _, _, _, _, _, _, _, _] I80 rfl rfl rfl rfl rfl (Nat.le_of_ble_eq_true rfl) (by simp [Value.oneCell']) rfl gno ?_
      refine AV.next (bl 6 31) (by kernel_rfl) (fun _ h => h.sel [7] rfl) ?_
      refine AV.u 5 (bl 6 63) rfl gno (Step.assign rfl) rfl (fun _ h => h.sel [7] rfl) ?_
      refine AV.done (by kernel_rfl) ?_
      refine KV.then_n (KV.e2 2 3 (CV.ret ?_))
      refine KV.sel [8, 4, 2, 3, 3, 1] [_, _, _, _, _, _] rfl ?_
      exact KV.retC2 [_, _, _, _, _, _, _, _, _, _, _] rfl rfl rfl Tryz.underlying80 rfl I80 rfl (fun w h => h.cells 5 rfl) [_, _, _, _, _] (fun _ h => h.sel [0, 0, 0, 0, 0] rfl) ⟨_, _, _, _, _, _, _, _, _, _, _, _, _, _, _, rfl, rfl⟩
end Go.Proofs.YtdfkpdcpegcieaaGreatDoor
