/-
 Walks, part 25.
-/
import Derived.Test.YtdfkpdcpegcieaaGreatDoorTab25
import Derived.Test.YtdfkpdcpegcieaaGreatDoorW24
set_option linter.unusedSimpArgs false
set_option linter.unusedVariables false
namespace Go.Proofs.YtdfkpdcpegcieaaGreatDoor
open Go.Sv Go.Perf Go.Ctl
set_option maxRecDepth 100000 in
set_option maxHeartbeats 4000000 in
theorem start0_fn {w : World} : Fx Tryz.prog 55 [.agg #[.slice none 0 0, .slice none 0 0, .slice none 0 0]] w [] no (fun v L => ∃ b tp mp bp q cc A c, v = .tuple #[.agg #[.pointer (some ⟨b, 0, none⟩), .pointer (some bp), .pointer (some q), .pointer (some cc), .int .i64 0], .bool true] ∧ L = [Blk b (.cells #[.slice none 0 0, .pointer (some tp), .pointer (some mp), .pointer (some bp), .slice A 0 c] 170 (0, 0))]) := by
 refine Sv.Fx.body Tryz.func55 rfl T55 rfl ?_
 intro I hro hI
 refine KV.e1 0 (CV.seq (CV.region ?_))
 refine RV.op (OV.box (t := 87) #[_, _, _] rfl rfl gno rfl (fun b0_0 => ?_))
 refine RV.op (OV.alloc #[.pointer none, .pointer none, .pointer none, .pointer none, .int .i64 0] I72 rfl gno rfl (fun b0_1 => ?_))
 refine RV.a rfl rfl ?_
 refine RV.nil (KV.then_n (KV.e2 1 2 (CV.seq ?_)))
 refine CV.any (Hp I w [Blk b0_0 (.cells #[.slice none 0 0, .slice none 0 0, .slice none 0 0] 87 (0, 0))]) (by kernel_rfl) (fun _ h => h.drew) 9 rfl ?_
 refine AV.u 1 (bl 9 2) rfl gno (Step.build rfl (Bd227_)) rfl (fun _ h => h.sel [0] rfl) ?_
 refine AV.u 3 (bl 9 10) rfl gno (Step.fieldAddr rfl (F87_0 _ _)) rfl (fun _ h => h.sel [0] rfl) ?_
 refine AV.u 4 (bl 9 26) rfl gno (Step.load Tryz.underlying83 rfl rfl (fun w h => h.cell 0 rfl rfl)) rfl (fun _ h => h.sel [0] rfl) ?_
 refine AV.u 5 (bl 9 58) rfl gno (Step.lenSl Tryz.underlying83 rfl) rfl (fun _ h => h.sel [0] rfl) ?_
 refine AV.all [0, 2, 7] (by kernel_rfl) (by decide) ?_
 refine ⟨⟨_, rfl, ?_⟩, ⟨⟨_, rfl, ?_⟩, ⟨⟨_, rfl, ?_⟩, trivial⟩⟩⟩
 ·
  refine OV.call [] (F := [_, _]) Tryz.func32 B32 N32 rfl rfl (fun w h => busNew_fn) (fun _ hb => hb.elim) gno rfl (fun v L' hp => ?_)
  obtain ⟨⟨bb, rfl⟩, rfl⟩ := hp
  simp only [List.append_nil]
  refine AV.next (bl 9 59) (by kernel_rfl) (fun _ h => h.sel [0] rfl) ?_
  refine AV.all [2, 7] (by kernel_rfl) (by decide) ?_
  refine ⟨⟨_, rfl, ?_⟩, ⟨⟨_, rfl, ?_⟩, trivial⟩⟩
  ·
   refine OV.box (t := 227) #[_, _, _, _, _, _, _, _, _, _, _, _, _, _, _, _, _, _, _, _, _, _, _, _, _, _, _, _, _, _, _, _, _, _, _, _, _, _, _, _, _, _, _, _, _, _, _, _, _, _, _, _, _, _, _, _, _, _, _, _, _, _, _, _, _, _, _, _, _, _, _, _, _, _, _, _, _, _, _, _, _, _, _, _, _, _, _, _, _, _, _, _, _, _, _, _, _, _, _, _, _, _, _, _, _, _, _, _, _, _, _, _, _, _, _, _, _, _, _, _, _, _, _, _, _, _, _, _, _, _, _, _, _, _, _, _, _, _, _, _, _, _, _, _, _, _, _, _, _, _, _, _, _, _, _, _, _, _, _, _, _, _, _, _, _, _, _, _, _, _, _, _, _, _, _, _, _, _, _, _, _, _, _, _, _, _, _, _, _, _, _, _, _, _, _, _, _, _, _, _, _, _, _, _, _, _, _, _, _, _, _, _, _, _, _, _, _, _, _, _, _, _, _, _, _, _, _, _, _, _, _, _, _, _, _, _, _, _, _, _, _, _, _, _, _, _, _, _, _, _, _, _, _, _, _, _, _, _, _] rfl rfl gno rfl (fun b1_2 => ?_)
   refine AV.next (bl 9 63) (by kernel_rfl) (fun _ h => h.sel [0] rfl) ?_
   refine AV.u 6 (bl 9 127) rfl gno (Step.build rfl (Bd72_1_3_4 _ _ _)) rfl (fun _ h => h.sel [0] rfl) ?_
   refine AV.all [7] (by kernel_rfl) (by decide) ?_
   refine ⟨⟨_, rfl, ?_⟩, trivial⟩
   ·
    refine OV.alloc #[.pointer none, .pointer none, .pointer none, .pointer none, .int .i64 0] I72 rfl gno rfl (fun b1_7 => ?_)
    refine AV.next (bl 9 255) (by kernel_rfl) (fun _ h => h.sel [0] rfl) ?_
    refine AV.all [8] (by kernel_rfl) (by decide) ?_
    refine ⟨⟨_, rfl, ?_⟩, trivial⟩
    ·
     refine OV.store 3 [_, _, _, _, _] #[_, _, _, _, _] I72 rfl rfl rfl rfl rfl (Nat.le_of_ble_eq_true rfl) (by simp [Value.oneCell']) rfl gno ?_
     refine AV.next (bl 9 511) (by kernel_rfl) (fun _ h => h.sel [0] rfl) ?_
     refine AV.done (by kernel_rfl) ?_
     refine KV.then_n (KV.e3 1 2 4 (CV.seq (CV.seq (CV.region ?_))))
     refine RV.s (Step.fieldAddr rfl (F72_1 _ _)) rfl ?_
     (first | refine RV.op (OV.step gno (Step.load Tryz.underlying68 rfl rfl (fun w h => h.cell 0 rfl rfl)) rfl ?_) | refine RV.op (OV.step gno (Step.load Tryz.underlying68 rfl rfl (fun w h => h.cell 1 rfl rfl)) rfl ?_) | refine RV.op (OV.step gno (Step.load Tryz.underlying68 rfl rfl (fun w h => h.cell 3 rfl rfl)) rfl ?_))
     refine RV.s (Step.eqlP Tryz.underlying68 rfl rfl) rfl ?_
     refine RV.nil (KV.then_n (KV.e4 1 2 4 18 (CV.cond_f rfl (CV.skip (KV.then_n ?_)))))
     refine KV.e3 1 2 4 (CV.seq (CV.region ?_))
     refine RV.s (Step.fieldAddr rfl (F87_0 _ _)) rfl ?_
     (first | refine RV.op (OV.step gno (Step.load Tryz.underlying83 rfl rfl (fun w h => h.cell 0 rfl rfl)) rfl ?_) | refine RV.op (OV.step gno (Step.load Tryz.underlying83 rfl rfl (fun w h => h.cell 1 rfl rfl)) rfl ?_) | refine RV.op (OV.step gno (Step.load Tryz.underlying83 rfl rfl (fun w h => h.cell 3 rfl rfl)) rfl ?_))
     refine RV.s (Step.fieldAddr rfl (F87_1 _ _)) rfl ?_
     (first | refine RV.op (OV.step gno (Step.load Tryz.underlying84 rfl rfl (fun w h => h.cell 0 rfl rfl)) rfl ?_) | refine RV.op (OV.step gno (Step.load Tryz.underlying84 rfl rfl (fun w h => h.cell 1 rfl rfl)) rfl ?_) | refine RV.op (OV.step gno (Step.load Tryz.underlying84 rfl rfl (fun w h => h.cell 3 rfl rfl)) rfl ?_))
     refine RV.s (Step.fieldAddr rfl (F87_2 _ _)) rfl ?_
     (first | refine RV.op (OV.step gno (Step.load Tryz.underlying85 rfl rfl (fun w h => h.cell 0 rfl rfl)) rfl ?_) | refine RV.op (OV.step gno (Step.load Tryz.underlying85 rfl rfl (fun w h => h.cell 1 rfl rfl)) rfl ?_) | refine RV.op (OV.step gno (Step.load Tryz.underlying85 rfl rfl (fun w h => h.cell 3 rfl rfl)) rfl ?_))
     refine RV.s (Step.fieldAddr rfl (F72_1 _ _)) rfl ?_
     (first | refine RV.op (OV.step gno (Step.load Tryz.underlying68 rfl rfl (fun w h => h.cell 0 rfl rfl)) rfl ?_) | refine RV.op (OV.step gno (Step.load Tryz.underlying68 rfl rfl (fun w h => h.cell 1 rfl rfl)) rfl ?_) | refine RV.op (OV.step gno (Step.load Tryz.underlying68 rfl rfl (fun w h => h.cell 3 rfl rfl)) rfl ?_))
     refine RV.op (OV.call [] (F := [_, _, _, _]) Tryz.func33 B33 N33 rfl rfl (fun w h => powerNew0_fn _) (fun _ hb => hb.elim) gno rfl (fun v L' hp => ?_))
     obtain ⟨p, tp, mp, Ap, cp, rfl, rfl⟩ := hp
     refine RV.m rfl rfl (RV.s (Step.extract0 rfl rfl) rfl (RV.s (Step.extract0 rfl rfl) rfl (RV.a rfl rfl (RV.a rfl rfl ?_))))
     refine RV.nil (KV.then_n (KV.e5 1 2 4 5 6 (CV.seq (CV.region ?_))))
     refine RV.s (Step.fieldAddr rfl (F87_0 _ _)) rfl ?_
     (first | refine RV.op (OV.step gno (Step.load Tryz.underlying83 rfl rfl (fun w h => h.cell 0 rfl rfl)) rfl ?_) | refine RV.op (OV.step gno (Step.load Tryz.underlying83 rfl rfl (fun w h => h.cell 1 rfl rfl)) rfl ?_) | refine RV.op (OV.step gno (Step.load Tryz.underlying83 rfl rfl (fun w h => h.cell 3 rfl rfl)) rfl ?_))
     refine RV.s (Step.fieldAddr rfl (F87_1 _ _)) rfl ?_
     (first | refine RV.op (OV.step gno (Step.load Tryz.underlying84 rfl rfl (fun w h => h.cell 0 rfl rfl)) rfl ?_) | refine RV.op (OV.step gno (Step.load Tryz.underlying84 rfl rfl (fun w h => h.cell 1 rfl rfl)) rfl ?_) | refine RV.op (OV.step gno (Step.load Tryz.underlying84 rfl rfl (fun w h => h.cell 3 rfl rfl)) rfl ?_))
     refine RV.s (Step.fieldAddr rfl (F87_2 _ _)) rfl ?_
     (first | refine RV.op (OV.step gno (Step.load Tryz.underlying85 rfl rfl (fun w h => h.cell 0 rfl rfl)) rfl ?_) | refine RV.op (OV.step gno (Step.load Tryz.underlying85 rfl rfl (fun w h => h.cell 1 rfl rfl)) rfl ?_) | refine RV.op (OV.step gno (Step.load Tryz.underlying85 rfl rfl (fun w h => h.cell 3 rfl rfl)) rfl ?_))
     refine RV.s (Step.fieldAddr rfl (F72_3 _ _)) rfl ?_
     (first | refine RV.op (OV.step gno (Step.load Tryz.underlying70 rfl rfl (fun w h => h.cell 0 rfl rfl)) rfl ?_) | refine RV.op (OV.step gno (Step.load Tryz.underlying70 rfl rfl (fun w h => h.cell 1 rfl rfl)) rfl ?_) | refine RV.op (OV.step gno (Step.load Tryz.underlying70 rfl rfl (fun w h => h.cell 3 rfl rfl)) rfl ?_))
     refine RV.op (OV.call [] (F := [_, _, _, _, _]) Tryz.func90 B90 N90 rfl rfl (fun w h => powerNewR0_fn _) (fun _ hb => hb.elim) gno rfl (fun v L' hp => ?_))
     obtain ⟨⟨qq, rfl⟩, rfl⟩ := hp
     simp only [List.append_nil]
     refine RV.m rfl rfl (RV.s (Step.extract0 rfl rfl) rfl (RV.s (Step.extract0 rfl rfl) rfl (RV.a rfl rfl (RV.a rfl rfl ?_))))
     refine RV.nil (KV.then_n (KV.e6 2 4 5 6 7 8 (CV.seq (CV.region ?_))))
     refine RV.m rfl rfl (RV.m rfl rfl (RV.s (Step.fieldAddr rfl (F72_0 _ _)) rfl ?_))
     refine RV.op (OV.store 3 [_] #[_, _, _, _, _] I67 rfl rfl rfl rfl rfl (Nat.le_of_ble_eq_true rfl) (by simp [Value.oneCell']) rfl gno ?_)
     refine RV.s (Step.fieldAddr rfl (F72_2 _ _)) rfl ?_
     refine RV.op (OV.store 3 [_] #[_, _, _, _, _] I69 rfl rfl rfl rfl rfl (Nat.le_of_ble_eq_true rfl) (by simp [Value.oneCell']) rfl gno ?_)
     refine RV.nil (KV.then_n (KV.e5 2 4 5 6 8 (CV.seq (CV.region ?_))))
     refine RV.s (Step.loadN _ Tryz.underlying72 rfl I72 rfl rfl (fun w h => h.cells 3 rfl)) rfl (RV.m rfl rfl (RV.s (Step.eql rfl rfl) rfl (RV.m rfl rfl (RV.gw rfl (Step.move rfl) rfl (RV.gw rfl (Step.eql rfl rfl) rfl (RV.s (Step.pick_t rfl rfl) rfl (RV.m rfl rfl ?_)))))))
     refine RV.gw rfl (Step.move rfl) rfl (RV.gw rfl (Step.neqP Tryz.underlying67 rfl rfl) rfl (RV.s (Step.pick_t rfl rfl) rfl ?_))
     refine RV.op (OV.store 1 [_, _, _, _, _] #[_, _, _, _, _] I72 rfl rfl rfl rfl rfl (Nat.le_of_ble_eq_true rfl) (by simp [Value.oneCell']) rfl gno ?_)
     refine RV.a rfl rfl ?_
     refine RV.nil (KV.then_n (KV.e2 2 3 (CV.ret ?_)))
     refine KV.sel [4, 1] [_, _] rfl ?_
     exact KV.retC2 [_, _, _, _, _] rfl rfl rfl Tryz.underlying72 rfl I72 rfl (fun w h => h.cells 1 rfl) [_] (fun _ h => h.sel [0] rfl) ⟨_, _, _, _, _, _, _, _, rfl, rfl⟩
  ·
   refine OV.alloc #[.pointer none, .pointer none, .pointer none, .pointer none, .int .i64 0] I72 rfl gno rfl (fun b1_7 => ?_)
   refine AV.next (bl 9 187) (by kernel_rfl) (fun _ h => h.sel [0] rfl) ?_
   refine AV.all [2] (by kernel_rfl) (by decide) ?_
   refine ⟨⟨_, rfl, ?_⟩, trivial⟩
   ·
    refine OV.box (t := 227) #[_, _, _, _, _, _, _, _, _, _, _, _, _, _, _, _, _, _, _, _, _, _, _, _, _, _, _, _, _, _, _, _, _, _, _, _, _, _, _, _, _, _, _, _, _, _, _, _, _, _, _, _, _, _, _, _, _, _, _, _, _, _, _, _, _, _, _, _, _, _, _, _, _, _, _, _, _, _, _, _, _, _, _, _, _, _, _, _, _, _, _, _, _, _, _, _, _, _, _, _, _, _, _, _, _, _, _, _, _, _, _, _, _, _, _, _, _, _, _, _, _, _, _, _, _, _, _, _, _, _, _, _, _, _, _, _, _, _, _, _, _, _, _, _, _, _, _, _, _, _, _, _, _, _, _, _, _, _, _, _, _, _, _, _, _, _, _, _, _, _, _, _, _, _, _, _, _, _, _, _, _, _, _, _, _, _, _, _, _, _, _, _, _, _, _, _, _, _, _, _, _, _, _, _, _, _, _, _, _, _, _, _, _, _, _, _, _, _, _, _, _, _, _, _, _, _, _, _, _, _, _, _, _, _, _, _, _, _, _, _, _, _, _, _, _, _, _, _, _, _, _, _, _, _, _, _, _, _, _] rfl rfl gno rfl (fun b1_2 => ?_)
    refine AV.next (bl 9 191) (by kernel_rfl) (fun _ h => h.sel [0] rfl) ?_
    refine AV.u 6 (bl 9 255) rfl gno (Step.build rfl (Bd72_1_3_4 _ _ _)) rfl (fun _ h => h.sel [0] rfl) ?_
    refine AV.all [8] (by kernel_rfl) (by decide) ?_
    refine ⟨⟨_, rfl, ?_⟩, trivial⟩
    ·
     refine OV.store 2 [_, _, _, _, _] #[_, _, _, _, _] I72 rfl rfl rfl rfl rfl (Nat.le_of_ble_eq_true rfl) (by simp [Value.oneCell']) rfl gno ?_
     refine AV.next (bl 9 511) (by kernel_rfl) (fun _ h => h.sel [0] rfl) ?_
     refine AV.done (by kernel_rfl) ?_
     refine KV.then_n (KV.e3 1 2 4 (CV.seq (CV.seq (CV.region ?_))))
     refine RV.s (Step.fieldAddr rfl (F72_1 _ _)) rfl ?_
     (first | refine RV.op (OV.step gno (Step.load Tryz.underlying68 rfl rfl (fun w h => h.cell 0 rfl rfl)) rfl ?_) | refine RV.op (OV.step gno (Step.load Tryz.underlying68 rfl rfl (fun w h => h.cell 1 rfl rfl)) rfl ?_) | refine RV.op (OV.step gno (Step.load Tryz.underlying68 rfl rfl (fun w h => h.cell 2 rfl rfl)) rfl ?_))
     refine RV.s (Step.eqlP Tryz.underlying68 rfl rfl) rfl ?_
     refine RV.nil (KV.then_n (KV.e4 1 2 4 18 (CV.cond_f rfl (CV.skip (KV.then_n ?_)))))
     refine KV.e3 1 2 4 (CV.seq (CV.region ?_))
     refine RV.s (Step.fieldAddr rfl (F87_0 _ _)) rfl ?_
     (first | refine RV.op (OV.step gno (Step.load Tryz.underlying83 rfl rfl (fun w h => h.cell 0 rfl rfl)) rfl ?_) | refine RV.op (OV.step gno (Step.load Tryz.underlying83 rfl rfl (fun w h => h.cell 1 rfl rfl)) rfl ?_) | refine RV.op (OV.step gno (Step.load Tryz.underlying83 rfl rfl (fun w h => h.cell 2 rfl rfl)) rfl ?_))
     refine RV.s (Step.fieldAddr rfl (F87_1 _ _)) rfl ?_
     (first | refine RV.op (OV.step gno (Step.load Tryz.underlying84 rfl rfl (fun w h => h.cell 0 rfl rfl)) rfl ?_) | refine RV.op (OV.step gno (Step.load Tryz.underlying84 rfl rfl (fun w h => h.cell 1 rfl rfl)) rfl ?_) | refine RV.op (OV.step gno (Step.load Tryz.underlying84 rfl rfl (fun w h => h.cell 2 rfl rfl)) rfl ?_))
     refine RV.s (Step.fieldAddr rfl (F87_2 _ _)) rfl ?_
     (first | refine RV.op (OV.step gno (Step.load Tryz.underlying85 rfl rfl (fun w h => h.cell 0 rfl rfl)) rfl ?_) | refine RV.op (OV.step gno (Step.load Tryz.underlying85 rfl rfl (fun w h => h.cell 1 rfl rfl)) rfl ?_) | refine RV.op (OV.step gno (Step.load Tryz.underlying85 rfl rfl (fun w h => h.cell 2 rfl rfl)) rfl ?_))
     refine RV.s (Step.fieldAddr rfl (F72_1 _ _)) rfl ?_
     (first | refine RV.op (OV.step gno (Step.load Tryz.underlying68 rfl rfl (fun w h => h.cell 0 rfl rfl)) rfl ?_) | refine RV.op (OV.step gno (Step.load Tryz.underlying68 rfl rfl (fun w h => h.cell 1 rfl rfl)) rfl ?_) | refine RV.op (OV.step gno (Step.load Tryz.underlying68 rfl rfl (fun w h => h.cell 2 rfl rfl)) rfl ?_))
     refine RV.op (OV.call [] (F := [_, _, _, _]) Tryz.func33 B33 N33 rfl rfl (fun w h => powerNew0_fn _) (fun _ hb => hb.elim) gno rfl (fun v L' hp => ?_))
     obtain ⟨p, tp, mp, Ap, cp, rfl, rfl⟩ := hp
     refine RV.m rfl rfl (RV.s (Step.extract0 rfl rfl) rfl (RV.s (Step.extract0 rfl rfl) rfl (RV.a rfl rfl (RV.a rfl rfl ?_))))
     refine RV.nil (KV.then_n (KV.e5 1 2 4 5 6 (CV.seq (CV.region ?_))))
     refine RV.s (Step.fieldAddr rfl (F87_0 _ _)) rfl ?_
     (first | refine RV.op (OV.step gno (Step.load Tryz.underlying83 rfl rfl (fun w h => h.cell 0 rfl rfl)) rfl ?_) | refine RV.op (OV.step gno (Step.load Tryz.underlying83 rfl rfl (fun w h => h.cell 1 rfl rfl)) rfl ?_) | refine RV.op (OV.step gno (Step.load Tryz.underlying83 rfl rfl (fun w h => h.cell 2 rfl rfl)) rfl ?_))
     refine RV.s (Step.fieldAddr rfl (F87_1 _ _)) rfl ?_
     (first | refine RV.op (OV.step gno (Step.load Tryz.underlying84 rfl rfl (fun w h => h.cell 0 rfl rfl)) rfl ?_) | refine RV.op (OV.step gno (Step.load Tryz.underlying84 rfl rfl (fun w h => h.cell 1 rfl rfl)) rfl ?_) | refine RV.op (OV.step gno (Step.load Tryz.underlying84 rfl rfl (fun w h => h.cell 2 rfl rfl)) rfl ?_))
     refine RV.s (Step.fieldAddr rfl (F87_2 _ _)) rfl ?_
     (first | refine RV.op (OV.step gno (Step.load Tryz.underlying85 rfl rfl (fun w h => h.cell 0 rfl rfl)) rfl ?_) | refine RV.op (OV.step gno (Step.load Tryz.underlying85 rfl rfl (fun w h => h.cell 1 rfl rfl)) rfl ?_) | refine RV.op (OV.step gno (Step.load Tryz.underlying85 rfl rfl (fun w h => h.cell 2 rfl rfl)) rfl ?_))
     refine RV.s (Step.fieldAddr rfl (F72_3 _ _)) rfl ?_
     (first | refine RV.op (OV.step gno (Step.load Tryz.underlying70 rfl rfl (fun w h => h.cell 0 rfl rfl)) rfl ?_) | refine RV.op (OV.step gno (Step.load Tryz.underlying70 rfl rfl (fun w h => h.cell 1 rfl rfl)) rfl ?_) | refine RV.op (OV.step gno (Step.load Tryz.underlying70 rfl rfl (fun w h => h.cell 2 rfl rfl)) rfl ?_))
     refine RV.op (OV.call [] (F := [_, _, _, _, _]) Tryz.func90 B90 N90 rfl rfl (fun w h => powerNewR0_fn _) (fun _ hb => hb.elim) gno rfl (fun v L' hp => ?_))
     obtain ⟨⟨qq, rfl⟩, rfl⟩ := hp
     simp only [List.append_nil]
     refine RV.m rfl rfl (RV.s (Step.extract0 rfl rfl) rfl (RV.s (Step.extract0 rfl rfl) rfl (RV.a rfl rfl (RV.a rfl rfl ?_))))
     refine RV.nil (KV.then_n (KV.e6 2 4 5 6 7 8 (CV.seq (CV.region ?_))))
     refine RV.m rfl rfl (RV.m rfl rfl (RV.s (Step.fieldAddr rfl (F72_0 _ _)) rfl ?_))
     refine RV.op (OV.store 2 [_] #[_, _, _, _, _] I67 rfl rfl rfl rfl rfl (Nat.le_of_ble_eq_true rfl) (by simp [Value.oneCell']) rfl gno ?_)
     refine RV.s (Step.fieldAddr rfl (F72_2 _ _)) rfl ?_
     refine RV.op (OV.store 2 [_] #[_, _, _, _, _] I69 rfl rfl rfl rfl rfl (Nat.le_of_ble_eq_true rfl) (by simp [Value.oneCell']) rfl gno ?_)
     refine RV.nil (KV.then_n (KV.e5 2 4 5 6 8 (CV.seq (CV.region ?_))))
     refine RV.s (Step.loadN _ Tryz.underlying72 rfl I72 rfl rfl (fun w h => h.cells 2 rfl)) rfl (RV.m rfl rfl (RV.s (Step.eql rfl rfl) rfl (RV.m rfl rfl (RV.gw rfl (Step.move rfl) rfl (RV.gw rfl (Step.eql rfl rfl) rfl (RV.s (Step.pick_t rfl rfl) rfl (RV.m rfl rfl ?_)))))))
     refine RV.gw rfl (Step.move rfl) rfl (RV.gw rfl (Step.neqP Tryz.underlying67 rfl rfl) rfl (RV.s (Step.pick_t rfl rfl) rfl ?_))
     refine RV.op (OV.store 1 [_, _, _, _, _] #[_, _, _, _, _] I72 rfl rfl rfl rfl rfl (Nat.le_of_ble_eq_true rfl) (by simp [Value.oneCell']) rfl gno ?_)
     refine RV.a rfl rfl ?_
     refine RV.nil (KV.then_n (KV.e2 2 3 (CV.ret ?_)))
     refine KV.sel [4, 1] [_, _] rfl ?_
     exact KV.retC2 [_, _, _, _, _] rfl rfl rfl Tryz.underlying72 rfl I72 rfl (fun w h => h.cells 1 rfl) [_] (fun _ h => h.sel [0] rfl) ⟨_, _, _, _, _, _, _, _, rfl, rfl⟩
 ·
  refine OV.box (t := 227) #[_, _, _, _, _, _, _, _, _, _, _, _, _, _, _, _, _, _, _, _, _, _, _, _, _, _, _, _, _, _, _, _, _, _, _, _, _, _, _, _, _, _, _, _, _, _, _, _, _, _, _, _, _, _, _, _, _, _, _, _, _, _, _, _, _, _, _, _, _, _, _, _, _, _, _, _, _, _, _, _, _, _, _, _, _, _, _, _, _, _, _, _, _, _, _, _, _, _, _, _, _, _, _, _, _, _, _, _, _, _, _, _, _, _, _, _, _, _, _, _, _, _, _, _, _, _, _, _, _, _, _, _, _, _, _, _, _, _, _, _, _, _, _, _, _, _, _, _, _, _, _, _, _, _, _, _, _, _, _, _, _, _, _, _, _, _, _, _, _, _, _, _, _, _, _, _, _, _, _, _, _, _, _, _, _, _, _, _, _, _, _, _, _, _, _, _, _, _, _, _, _, _, _, _, _, _, _, _, _, _, _, _, _, _, _, _, _, _, _, _, _, _, _, _, _, _, _, _, _, _, _, _, _, _, _, _, _, _, _, _, _, _, _, _, _, _, _, _, _, _, _, _, _, _, _, _, _, _, _] rfl rfl gno rfl (fun b1_2 => ?_)
  refine AV.next (bl 9 62) (by kernel_rfl) (fun _ h => h.sel [0] rfl) ?_
  refine AV.all [0, 7] (by kernel_rfl) (by decide) ?_
  refine ⟨⟨_, rfl, ?_⟩, ⟨⟨_, rfl, ?_⟩, trivial⟩⟩
  ·
   refine OV.call [] (F := [_, _, _]) Tryz.func32 B32 N32 rfl rfl (fun w h => busNew_fn) (fun _ hb => hb.elim) gno rfl (fun v L' hp => ?_)
   obtain ⟨⟨bb, rfl⟩, rfl⟩ := hp
   simp only [List.append_nil]
   refine AV.next (bl 9 63) (by kernel_rfl) (fun _ h => h.sel [0] rfl) ?_
   refine AV.u 6 (bl 9 127) rfl gno (Step.build rfl (Bd72_1_3_4 _ _ _)) rfl (fun _ h => h.sel [0] rfl) ?_
   refine AV.all [7] (by kernel_rfl) (by decide) ?_
   refine ⟨⟨_, rfl, ?_⟩, trivial⟩
   ·
    refine OV.alloc #[.pointer none, .pointer none, .pointer none, .pointer none, .int .i64 0] I72 rfl gno rfl (fun b1_7 => ?_)
    refine AV.next (bl 9 255) (by kernel_rfl) (fun _ h => h.sel [0] rfl) ?_
    refine AV.all [8] (by kernel_rfl) (by decide) ?_
    refine ⟨⟨_, rfl, ?_⟩, trivial⟩
    ·
     refine OV.store 3 [_, _, _, _, _] #[_, _, _, _, _] I72 rfl rfl rfl rfl rfl (Nat.le_of_ble_eq_true rfl) (by simp [Value.oneCell']) rfl gno ?_
     refine AV.next (bl 9 511) (by kernel_rfl) (fun _ h => h.sel [0] rfl) ?_
     refine AV.done (by kernel_rfl) ?_
     refine KV.then_n (KV.e3 1 2 4 (CV.seq (CV.seq (CV.region ?_))))
     refine RV.s (Step.fieldAddr rfl (F72_1 _ _)) rfl ?_
     (first | refine RV.op (OV.step gno (Step.load Tryz.underlying68 rfl rfl (fun w h => h.cell 0 rfl rfl)) rfl ?_) | refine RV.op (OV.step gno (Step.load Tryz.underlying68 rfl rfl (fun w h => h.cell 1 rfl rfl)) rfl ?_) | refine RV.op (OV.step gno (Step.load Tryz.underlying68 rfl rfl (fun w h => h.cell 3 rfl rfl)) rfl ?_))
     refine RV.s (Step.eqlP Tryz.underlying68 rfl rfl) rfl ?_
     refine RV.nil (KV.then_n (KV.e4 1 2 4 18 (CV.cond_f rfl (CV.skip (KV.then_n ?_)))))
     refine KV.e3 1 2 4 (CV.seq (CV.region ?_))
     refine RV.s (Step.fieldAddr rfl (F87_0 _ _)) rfl ?_
     (first | refine RV.op (OV.step gno (Step.load Tryz.underlying83 rfl rfl (fun w h => h.cell 0 rfl rfl)) rfl ?_) | refine RV.op (OV.step gno (Step.load Tryz.underlying83 rfl rfl (fun w h => h.cell 1 rfl rfl)) rfl ?_) | refine RV.op (OV.step gno (Step.load Tryz.underlying83 rfl rfl (fun w h => h.cell 3 rfl rfl)) rfl ?_))
     refine RV.s (Step.fieldAddr rfl (F87_1 _ _)) rfl ?_
     (first | refine RV.op (OV.step gno (Step.load Tryz.underlying84 rfl rfl (fun w h => h.cell 0 rfl rfl)) rfl ?_) | refine RV.op (OV.step gno (Step.load Tryz.underlying84 rfl rfl (fun w h => h.cell 1 rfl rfl)) rfl ?_) | refine RV.op (OV.step gno (Step.load Tryz.underlying84 rfl rfl (fun w h => h.cell 3 rfl rfl)) rfl ?_))
     refine RV.s (Step.fieldAddr rfl (F87_2 _ _)) rfl ?_
     (first | refine RV.op (OV.step gno (Step.load Tryz.underlying85 rfl rfl (fun w h => h.cell 0 rfl rfl)) rfl ?_) | refine RV.op (OV.step gno (Step.load Tryz.underlying85 rfl rfl (fun w h => h.cell 1 rfl rfl)) rfl ?_) | refine RV.op (OV.step gno (Step.load Tryz.underlying85 rfl rfl (fun w h => h.cell 3 rfl rfl)) rfl ?_))
     refine RV.s (Step.fieldAddr rfl (F72_1 _ _)) rfl ?_
     (first | refine RV.op (OV.step gno (Step.load Tryz.underlying68 rfl rfl (fun w h => h.cell 0 rfl rfl)) rfl ?_) | refine RV.op (OV.step gno (Step.load Tryz.underlying68 rfl rfl (fun w h => h.cell 1 rfl rfl)) rfl ?_) | refine RV.op (OV.step gno (Step.load Tryz.underlying68 rfl rfl (fun w h => h.cell 3 rfl rfl)) rfl ?_))
     refine RV.op (OV.call [] (F := [_, _, _, _]) Tryz.func33 B33 N33 rfl rfl (fun w h => powerNew0_fn _) (fun _ hb => hb.elim) gno rfl (fun v L' hp => ?_))
     obtain ⟨p, tp, mp, Ap, cp, rfl, rfl⟩ := hp
     refine RV.m rfl rfl (RV.s (Step.extract0 rfl rfl) rfl (RV.s (Step.extract0 rfl rfl) rfl (RV.a rfl rfl (RV.a rfl rfl ?_))))
     refine RV.nil (KV.then_n (KV.e5 1 2 4 5 6 (CV.seq (CV.region ?_))))
     refine RV.s (Step.fieldAddr rfl (F87_0 _ _)) rfl ?_
     (first | refine RV.op (OV.step gno (Step.load Tryz.underlying83 rfl rfl (fun w h => h.cell 0 rfl rfl)) rfl ?_) | refine RV.op (OV.step gno (Step.load Tryz.underlying83 rfl rfl (fun w h => h.cell 1 rfl rfl)) rfl ?_) | refine RV.op (OV.step gno (Step.load Tryz.underlying83 rfl rfl (fun w h => h.cell 3 rfl rfl)) rfl ?_))
     refine RV.s (Step.fieldAddr rfl (F87_1 _ _)) rfl ?_
     (first | refine RV.op (OV.step gno (Step.load Tryz.underlying84 rfl rfl (fun w h => h.cell 0 rfl rfl)) rfl ?_) | refine RV.op (OV.step gno (Step.load Tryz.underlying84 rfl rfl (fun w h => h.cell 1 rfl rfl)) rfl ?_) | refine RV.op (OV.step gno (Step.load Tryz.underlying84 rfl rfl (fun w h => h.cell 3 rfl rfl)) rfl ?_))
     refine RV.s (Step.fieldAddr rfl (F87_2 _ _)) rfl ?_
     (first | refine RV.op (OV.step gno (Step.load Tryz.underlying85 rfl rfl (fun w h => h.cell 0 rfl rfl)) rfl ?_) | refine RV.op (OV.step gno (Step.load Tryz.underlying85 rfl rfl (fun w h => h.cell 1 rfl rfl)) rfl ?_) | refine RV.op (OV.step gno (Step.load Tryz.underlying85 rfl rfl (fun w h => h.cell 3 rfl rfl)) rfl ?_))
     refine RV.s (Step.fieldAddr rfl (F72_3 _ _)) rfl ?_
     (first | refine RV.op (OV.step gno (Step.load Tryz.underlying70 rfl rfl (fun w h => h.cell 0 rfl rfl)) rfl ?_) | refine RV.op (OV.step gno (Step.load Tryz.underlying70 rfl rfl (fun w h => h.cell 1 rfl rfl)) rfl ?_) | refine RV.op (OV.step gno (Step.load Tryz.underlying70 rfl rfl (fun w h => h.cell 3 rfl rfl)) rfl ?_))
     refine RV.op (OV.call [] (F := [_, _, _, _, _]) Tryz.func90 B90 N90 rfl rfl (fun w h => powerNewR0_fn _) (fun _ hb => hb.elim) gno rfl (fun v L' hp => ?_))
     obtain ⟨⟨qq, rfl⟩, rfl⟩ := hp
     simp only [List.append_nil]
     refine RV.m rfl rfl (RV.s (Step.extract0 rfl rfl) rfl (RV.s (Step.extract0 rfl rfl) rfl (RV.a rfl rfl (RV.a rfl rfl ?_))))
     refine RV.nil (KV.then_n (KV.e6 2 4 5 6 7 8 (CV.seq (CV.region ?_))))
     refine RV.m rfl rfl (RV.m rfl rfl (RV.s (Step.fieldAddr rfl (F72_0 _ _)) rfl ?_))
     refine RV.op (OV.store 3 [_] #[_, _, _, _, _] I67 rfl rfl rfl rfl rfl (Nat.le_of_ble_eq_true rfl) (by simp [Value.oneCell']) rfl gno ?_)
     refine RV.s (Step.fieldAddr rfl (F72_2 _ _)) rfl ?_
     refine RV.op (OV.store 3 [_] #[_, _, _, _, _] I69 rfl rfl rfl rfl rfl (Nat.le_of_ble_eq_true rfl) (by simp [Value.oneCell']) rfl gno ?_)
     refine RV.nil (KV.then_n (KV.e5 2 4 5 6 8 (CV.seq (CV.region ?_))))
     refine RV.s (Step.loadN _ Tryz.underlying72 rfl I72 rfl rfl (fun w h => h.cells 3 rfl)) rfl (RV.m rfl rfl (RV.s (Step.eql rfl rfl) rfl (RV.m rfl rfl (RV.gw rfl (Step.move rfl) rfl (RV.gw rfl (Step.eql rfl rfl) rfl (RV.s (Step.pick_t rfl rfl) rfl (RV.m rfl rfl ?_)))))))
     refine RV.gw rfl (Step.move rfl) rfl (RV.gw rfl (Step.neqP Tryz.underlying67 rfl rfl) rfl (RV.s (Step.pick_t rfl rfl) rfl ?_))
     refine RV.op (OV.store 1 [_, _, _, _, _] #[_, _, _, _, _] I72 rfl rfl rfl rfl rfl (Nat.le_of_ble_eq_true rfl) (by simp [Value.oneCell']) rfl gno ?_)
     refine RV.a rfl rfl ?_
     refine RV.nil (KV.then_n (KV.e2 2 3 (CV.ret ?_)))
     refine KV.sel [4, 1] [_, _] rfl ?_
     exact KV.retC2 [_, _, _, _, _] rfl rfl rfl Tryz.underlying72 rfl I72 rfl (fun w h => h.cells 1 rfl) [_] (fun _ h => h.sel [0] rfl) ⟨_, _, _, _, _, _, _, _, rfl, rfl⟩
  ·
   refine OV.alloc #[.pointer none, .pointer none, .pointer none, .pointer none, .int .i64 0] I72 rfl gno rfl (fun b1_7 => ?_)
   refine AV.next (bl 9 190) (by kernel_rfl) (fun _ h => h.sel [0] rfl) ?_
   refine AV.all [0] (by kernel_rfl) (by decide) ?_
   refine ⟨⟨_, rfl, ?_⟩, trivial⟩
   ·
    refine OV.call [] (F := [_, _, _, _]) Tryz.func32 B32 N32 rfl rfl (fun w h => busNew_fn) (fun _ hb => hb.elim) gno rfl (fun v L' hp => ?_)
    obtain ⟨⟨bb, rfl⟩, rfl⟩ := hp
    simp only [List.append_nil]
    refine AV.next (bl 9 191) (by kernel_rfl) (fun _ h => h.sel [0] rfl) ?_
    refine AV.u 6 (bl 9 255) rfl gno (Step.build rfl (Bd72_1_3_4 _ _ _)) rfl (fun _ h => h.sel [0] rfl) ?_
    refine AV.all [8] (by kernel_rfl) (by decide) ?_
    refine ⟨⟨_, rfl, ?_⟩, trivial⟩
    ·
     refine OV.store 3 [_, _, _, _, _] #[_, _, _, _, _] I72 rfl rfl rfl rfl rfl (Nat.le_of_ble_eq_true rfl) (by simp [Value.oneCell']) rfl gno ?_
     refine AV.next (bl 9 511) (by kernel_rfl) (fun _ h => h.sel [0] rfl) ?_
     refine AV.done (by kernel_rfl) ?_
     refine KV.then_n (KV.e3 1 2 4 (CV.seq (CV.seq (CV.region ?_))))
     refine RV.s (Step.fieldAddr rfl (F72_1 _ _)) rfl ?_
     (first | refine RV.op (OV.step gno (Step.load Tryz.underlying68 rfl rfl (fun w h => h.cell 0 rfl rfl)) rfl ?_) | refine RV.op (OV.step gno (Step.load Tryz.underlying68 rfl rfl (fun w h => h.cell 1 rfl rfl)) rfl ?_) | refine RV.op (OV.step gno (Step.load Tryz.underlying68 rfl rfl (fun w h => h.cell 3 rfl rfl)) rfl ?_))
     refine RV.s (Step.eqlP Tryz.underlying68 rfl rfl) rfl ?_
     refine RV.nil (KV.then_n (KV.e4 1 2 4 18 (CV.cond_f rfl (CV.skip (KV.then_n ?_)))))
     refine KV.e3 1 2 4 (CV.seq (CV.region ?_))
     refine RV.s (Step.fieldAddr rfl (F87_0 _ _)) rfl ?_
     (first | refine RV.op (OV.step gno (Step.load Tryz.underlying83 rfl rfl (fun w h => h.cell 0 rfl rfl)) rfl ?_) | refine RV.op (OV.step gno (Step.load Tryz.underlying83 rfl rfl (fun w h => h.cell 1 rfl rfl)) rfl ?_) | refine RV.op (OV.step gno (Step.load Tryz.underlying83 rfl rfl (fun w h => h.cell 3 rfl rfl)) rfl ?_))
     refine RV.s (Step.fieldAddr rfl (F87_1 _ _)) rfl ?_
     (first | refine RV.op (OV.step gno (Step.load Tryz.underlying84 rfl rfl (fun w h => h.cell 0 rfl rfl)) rfl ?_) | refine RV.op (OV.step gno (Step.load Tryz.underlying84 rfl rfl (fun w h => h.cell 1 rfl rfl)) rfl ?_) | refine RV.op (OV.step gno (Step.load Tryz.underlying84 rfl rfl (fun w h => h.cell 3 rfl rfl)) rfl ?_))
     refine RV.s (Step.fieldAddr rfl (F87_2 _ _)) rfl ?_
     (first | refine RV.op (OV.step gno (Step.load Tryz.underlying85 rfl rfl (fun w h => h.cell 0 rfl rfl)) rfl ?_) | refine RV.op (OV.step gno (Step.load Tryz.underlying85 rfl rfl (fun w h => h.cell 1 rfl rfl)) rfl ?_) | refine RV.op (OV.step gno (Step.load Tryz.underlying85 rfl rfl (fun w h => h.cell 3 rfl rfl)) rfl ?_))
     refine RV.s (Step.fieldAddr rfl (F72_1 _ _)) rfl ?_
     (first | refine RV.op (OV.step gno (Step.load Tryz.underlying68 rfl rfl (fun w h => h.cell 0 rfl rfl)) rfl ?_) | refine RV.op (OV.step gno (Step.load Tryz.underlying68 rfl rfl (fun w h => h.cell 1 rfl rfl)) rfl ?_) | refine RV.op (OV.step gno (Step.load Tryz.underlying68 rfl rfl (fun w h => h.cell 3 rfl rfl)) rfl ?_))
     refine RV.op (OV.call [] (F := [_, _, _, _]) Tryz.func33 B33 N33 rfl rfl (fun w h => powerNew0_fn _) (fun _ hb => hb.elim) gno rfl (fun v L' hp => ?_))
     obtain ⟨p, tp, mp, Ap, cp, rfl, rfl⟩ := hp
     refine RV.m rfl rfl (RV.s (Step.extract0 rfl rfl) rfl (RV.s (Step.extract0 rfl rfl) rfl (RV.a rfl rfl (RV.a rfl rfl ?_))))
     refine RV.nil (KV.then_n (KV.e5 1 2 4 5 6 (CV.seq (CV.region ?_))))
     refine RV.s (Step.fieldAddr rfl (F87_0 _ _)) rfl ?_
     (first | refine RV.op (OV.step gno (Step.load Tryz.underlying83 rfl rfl (fun w h => h.cell 0 rfl rfl)) rfl ?_) | refine RV.op (OV.step gno (Step.load Tryz.underlying83 rfl rfl (fun w h => h.cell 1 rfl rfl)) rfl ?_) | refine RV.op (OV.step gno (Step.load Tryz.underlying83 rfl rfl (fun w h => h.cell 3 rfl rfl)) rfl ?_))
     refine RV.s (Step.fieldAddr rfl (F87_1 _ _)) rfl ?_
     (first | refine RV.op (OV.step gno (Step.load Tryz.underlying84 rfl rfl (fun w h => h.cell 0 rfl rfl)) rfl ?_) | refine RV.op (OV.step gno (Step.load Tryz.underlying84 rfl rfl (fun w h => h.cell 1 rfl rfl)) rfl ?_) | refine RV.op (OV.step gno (Step.load Tryz.underlying84 rfl rfl (fun w h => h.cell 3 rfl rfl)) rfl ?_))
     refine RV.s (Step.fieldAddr rfl (F87_2 _ _)) rfl ?_
     (first | refine RV.op (OV.step gno (Step.load Tryz.underlying85 rfl rfl (fun w h => h.cell 0 rfl rfl)) rfl ?_) | refine RV.op (OV.step gno (Step.load Tryz.underlying85 rfl rfl (fun w h => h.cell 1 rfl rfl)) rfl ?_) | refine RV.op (OV.step gno (Step.load Tryz.underlying85 rfl rfl (fun w h => h.cell 3 rfl rfl)) rfl ?_))
     refine RV.s (Step.fieldAddr rfl (F72_3 _ _)) rfl ?_
     (first | refine RV.op (OV.step gno (Step.load Tryz.underlying70 rfl rfl (fun w h => h.cell 0 rfl rfl)) rfl ?_) | refine RV.op (OV.step gno (Step.load Tryz.underlying70 rfl rfl (fun w h => h.cell 1 rfl rfl)) rfl ?_) | refine RV.op (OV.step gno (Step.load Tryz.underlying70 rfl rfl (fun w h => h.cell 3 rfl rfl)) rfl ?_))
     refine RV.op (OV.call [] (F := [_, _, _, _, _]) Tryz.func90 B90 N90 rfl rfl (fun w h => powerNewR0_fn _) (fun _ hb => hb.elim) gno rfl (fun v L' hp => ?_))
     obtain ⟨⟨qq, rfl⟩, rfl⟩ := hp
     simp only [List.append_nil]
     refine RV.m rfl rfl (RV.s (Step.extract0 rfl rfl) rfl (RV.s (Step.extract0 rfl rfl) rfl (RV.a rfl rfl (RV.a rfl rfl ?_))))
     refine RV.nil (KV.then_n (KV.e6 2 4 5 6 7 8 (CV.seq (CV.region ?_))))
     refine RV.m rfl rfl (RV.m rfl rfl (RV.s (Step.fieldAddr rfl (F72_0 _ _)) rfl ?_))
     refine RV.op (OV.store 3 [_] #[_, _, _, _, _] I67 rfl rfl rfl rfl rfl (Nat.le_of_ble_eq_true rfl) (by simp [Value.oneCell']) rfl gno ?_)
     refine RV.s (Step.fieldAddr rfl (F72_2 _ _)) rfl ?_
     refine RV.op (OV.store 3 [_] #[_, _, _, _, _] I69 rfl rfl rfl rfl rfl (Nat.le_of_ble_eq_true rfl) (by simp [Value.oneCell']) rfl gno ?_)
     refine RV.nil (KV.then_n (KV.e5 2 4 5 6 8 (CV.seq (CV.region ?_))))
     refine RV.s (Step.loadN _ Tryz.underlying72 rfl I72 rfl rfl (fun w h => h.cells 3 rfl)) rfl (RV.m rfl rfl (RV.s (Step.eql rfl rfl) rfl (RV.m rfl rfl (RV.gw rfl (Step.move rfl) rfl (RV.gw rfl (Step.eql rfl rfl) rfl (RV.s (Step.pick_t rfl rfl) rfl (RV.m rfl rfl ?_)))))))
     refine RV.gw rfl (Step.move rfl) rfl (RV.gw rfl (Step.neqP Tryz.underlying67 rfl rfl) rfl (RV.s (Step.pick_t rfl rfl) rfl ?_))
     refine RV.op (OV.store 1 [_, _, _, _, _] #[_, _, _, _, _] I72 rfl rfl rfl rfl rfl (Nat.le_of_ble_eq_true rfl) (by simp [Value.oneCell']) rfl gno ?_)
     refine RV.a rfl rfl ?_
     refine RV.nil (KV.then_n (KV.e2 2 3 (CV.ret ?_)))
     refine KV.sel [4, 1] [_, _] rfl ?_
     exact KV.retC2 [_, _, _, _, _] rfl rfl rfl Tryz.underlying72 rfl I72 rfl (fun w h => h.cells 1 rfl) [_] (fun _ h => h.sel [0] rfl) ⟨_, _, _, _, _, _, _, _, rfl, rfl⟩
 ·
  refine OV.alloc #[.pointer none, .pointer none, .pointer none, .pointer none, .int .i64 0] I72 rfl gno rfl (fun b1_7 => ?_)
  refine AV.next (bl 9 186) (by kernel_rfl) (fun _ h => h.sel [0] rfl) ?_
  refine AV.all [0, 2] (by kernel_rfl) (by decide) ?_
  refine ⟨⟨_, rfl, ?_⟩, ⟨⟨_, rfl, ?_⟩, trivial⟩⟩
  ·
   refine OV.call [] (F := [_, _, _]) Tryz.func32 B32 N32 rfl rfl (fun w h => busNew_fn) (fun _ hb => hb.elim) gno rfl (fun v L' hp => ?_)
   obtain ⟨⟨bb, rfl⟩, rfl⟩ := hp
   simp only [List.append_nil]
   refine AV.next (bl 9 187) (by kernel_rfl) (fun _ h => h.sel [0] rfl) ?_
   refine AV.all [2] (by kernel_rfl) (by decide) ?_
   refine ⟨⟨_, rfl, ?_⟩, trivial⟩
   ·
    refine OV.box (t := 227) #[_, _, _, _, _, _, _, _, _, _, _, _, _, _, _, _, _, _, _, _, _, _, _, _, _, _, _, _, _, _, _, _, _, _, _, _, _, _, _, _, _, _, _, _, _, _, _, _, _, _, _, _, _, _, _, _, _, _, _, _, _, _, _, _, _, _, _, _, _, _, _, _, _, _, _, _, _, _, _, _, _, _, _, _, _, _, _, _, _, _, _, _, _, _, _, _, _, _, _, _, _, _, _, _, _, _, _, _, _, _, _, _, _, _, _, _, _, _, _, _, _, _, _, _, _, _, _, _, _, _, _, _, _, _, _, _, _, _, _, _, _, _, _, _, _, _, _, _, _, _, _, _, _, _, _, _, _, _, _, _, _, _, _, _, _, _, _, _, _, _, _, _, _, _, _, _, _, _, _, _, _, _, _, _, _, _, _, _, _, _, _, _, _, _, _, _, _, _, _, _, _, _, _, _, _, _, _, _, _, _, _, _, _, _, _, _, _, _, _, _, _, _, _, _, _, _, _, _, _, _, _, _, _, _, _, _, _, _, _, _, _, _, _, _, _, _, _, _, _, _, _, _, _, _, _, _, _, _, _] rfl rfl gno rfl (fun b1_2 => ?_)
    refine AV.next (bl 9 191) (by kernel_rfl) (fun _ h => h.sel [0] rfl) ?_
    refine AV.u 6 (bl 9 255) rfl gno (Step.build rfl (Bd72_1_3_4 _ _ _)) rfl (fun _ h => h.sel [0] rfl) ?_
    refine AV.all [8] (by kernel_rfl) (by decide) ?_
    refine ⟨⟨_, rfl, ?_⟩, trivial⟩
    ·
     refine OV.store 2 [_, _, _, _, _] #[_, _, _, _, _] I72 rfl rfl rfl rfl rfl (Nat.le_of_ble_eq_true rfl) (by simp [Value.oneCell']) rfl gno ?_
     refine AV.next (bl 9 511) (by kernel_rfl) (fun _ h => h.sel [0] rfl) ?_
     refine AV.done (by kernel_rfl) ?_
     refine KV.then_n (KV.e3 1 2 4 (CV.seq (CV.seq (CV.region ?_))))
     refine RV.s (Step.fieldAddr rfl (F72_1 _ _)) rfl ?_
     (first | refine RV.op (OV.step gno (Step.load Tryz.underlying68 rfl rfl (fun w h => h.cell 0 rfl rfl)) rfl ?_) | refine RV.op (OV.step gno (Step.load Tryz.underlying68 rfl rfl (fun w h => h.cell 1 rfl rfl)) rfl ?_) | refine RV.op (OV.step gno (Step.load Tryz.underlying68 rfl rfl (fun w h => h.cell 2 rfl rfl)) rfl ?_))
     refine RV.s (Step.eqlP Tryz.underlying68 rfl rfl) rfl ?_
     refine RV.nil (KV.then_n (KV.e4 1 2 4 18 (CV.cond_f rfl (CV.skip (KV.then_n ?_)))))
     refine KV.e3 1 2 4 (CV.seq (CV.region ?_))
     refine RV.s (Step.fieldAddr rfl (F87_0 _ _)) rfl ?_
     (first | refine RV.op (OV.step gno (Step.load Tryz.underlying83 rfl rfl (fun w h => h.cell 0 rfl rfl)) rfl ?_) | refine RV.op (OV.step gno (Step.load Tryz.underlying83 rfl rfl (fun w h => h.cell 1 rfl rfl)) rfl ?_) | refine RV.op (OV.step gno (Step.load Tryz.underlying83 rfl rfl (fun w h => h.cell 2 rfl rfl)) rfl ?_))
     refine RV.s (Step.fieldAddr rfl (F87_1 _ _)) rfl ?_
     (first | refine RV.op (OV.step gno (Step.load Tryz.underlying84 rfl rfl (fun w h => h.cell 0 rfl rfl)) rfl ?_) | refine RV.op (OV.step gno (Step.load Tryz.underlying84 rfl rfl (fun w h => h.cell 1 rfl rfl)) rfl ?_) | refine RV.op (OV.step gno (Step.load Tryz.underlying84 rfl rfl (fun w h => h.cell 2 rfl rfl)) rfl ?_))
     refine RV.s (Step.fieldAddr rfl (F87_2 _ _)) rfl ?_
     (first | refine RV.op (OV.step gno (Step.load Tryz.underlying85 rfl rfl (fun w h => h.cell 0 rfl rfl)) rfl ?_) | refine RV.op (OV.step gno (Step.load Tryz.underlying85 rfl rfl (fun w h => h.cell 1 rfl rfl)) rfl ?_) | refine RV.op (OV.step gno (Step.load Tryz.underlying85 rfl rfl (fun w h => h.cell 2 rfl rfl)) rfl ?_))
     refine RV.s (Step.fieldAddr rfl (F72_1 _ _)) rfl ?_
     (first | refine RV.op (OV.step gno (Step.load Tryz.underlying68 rfl rfl (fun w h => h.cell 0 rfl rfl)) rfl ?_) | refine RV.op (OV.step gno (Step.load Tryz.underlying68 rfl rfl (fun w h => h.cell 1 rfl rfl)) rfl ?_) | refine RV.op (OV.step gno (Step.load Tryz.underlying68 rfl rfl (fun w h => h.cell 2 rfl rfl)) rfl ?_))
     refine RV.op (OV.call [] (F := [_, _, _, _]) Tryz.func33 B33 N33 rfl rfl (fun w h => powerNew0_fn _) (fun _ hb => hb.elim) gno rfl (fun v L' hp => ?_))
     obtain ⟨p, tp, mp, Ap, cp, rfl, rfl⟩ := hp
     refine RV.m rfl rfl (RV.s (Step.extract0 rfl rfl) rfl (RV.s (Step.extract0 rfl rfl) rfl (RV.a rfl rfl (RV.a rfl rfl ?_))))
     refine RV.nil (KV.then_n (KV.e5 1 2 4 5 6 (CV.seq (CV.region ?_))))
     refine RV.s (Step.fieldAddr rfl (F87_0 _ _)) rfl ?_
     (first | refine RV.op (OV.step gno (Step.load Tryz.underlying83 rfl rfl (fun w h => h.cell 0 rfl rfl)) rfl ?_) | refine RV.op (OV.step gno (Step.load Tryz.underlying83 rfl rfl (fun w h => h.cell 1 rfl rfl)) rfl ?_) | refine RV.op (OV.step gno (Step.load Tryz.underlying83 rfl rfl (fun w h => h.cell 2 rfl rfl)) rfl ?_))
     refine RV.s (Step.fieldAddr rfl (F87_1 _ _)) rfl ?_
     (first | refine RV.op (OV.step gno (Step.load Tryz.underlying84 rfl rfl (fun w h => h.cell 0 rfl rfl)) rfl ?_) | refine RV.op (OV.step gno (Step.load Tryz.underlying84 rfl rfl (fun w h => h.cell 1 rfl rfl)) rfl ?_) | refine RV.op (OV.step gno (Step.load Tryz.underlying84 rfl rfl (fun w h => h.cell 2 rfl rfl)) rfl ?_))
     refine RV.s (Step.fieldAddr rfl (F87_2 _ _)) rfl ?_
     (first | refine RV.op (OV.step gno (Step.load Tryz.underlying85 rfl rfl (fun w h => h.cell 0 rfl rfl)) rfl ?_) | refine RV.op (OV.step gno (Step.load Tryz.underlying85 rfl rfl (fun w h => h.cell 1 rfl rfl)) rfl ?_) | refine RV.op (OV.step gno (Step.load Tryz.underlying85 rfl rfl (fun w h => h.cell 2 rfl rfl)) rfl ?_))
     refine RV.s (Step.fieldAddr rfl (F72_3 _ _)) rfl ?_
     (first | refine RV.op (OV.step gno (Step.load Tryz.underlying70 rfl rfl (fun w h => h.cell 0 rfl rfl)) rfl ?_) | refine RV.op (OV.step gno (Step.load Tryz.underlying70 rfl rfl (fun w h => h.cell 1 rfl rfl)) rfl ?_) | refine RV.op (OV.step gno (Step.load Tryz.underlying70 rfl rfl (fun w h => h.cell 2 rfl rfl)) rfl ?_))
     refine RV.op (OV.call [] (F := [_, _, _, _, _]) Tryz.func90 B90 N90 rfl rfl (fun w h => powerNewR0_fn _) (fun _ hb => hb.elim) gno rfl (fun v L' hp => ?_))
     obtain ⟨⟨qq, rfl⟩, rfl⟩ := hp
     simp only [List.append_nil]
     refine RV.m rfl rfl (RV.s (Step.extract0 rfl rfl) rfl (RV.s (Step.extract0 rfl rfl) rfl (RV.a rfl rfl (RV.a rfl rfl ?_))))
     refine RV.nil (KV.then_n (KV.e6 2 4 5 6 7 8 (CV.seq (CV.region ?_))))
     refine RV.m rfl rfl (RV.m rfl rfl (RV.s (Step.fieldAddr rfl (F72_0 _ _)) rfl ?_))
     refine RV.op (OV.store 2 [_] #[_, _, _, _, _] I67 rfl rfl rfl rfl rfl (Nat.le_of_ble_eq_true rfl) (by simp [Value.oneCell']) rfl gno ?_)
     refine RV.s (Step.fieldAddr rfl (F72_2 _ _)) rfl ?_
     refine RV.op (OV.store 2 [_] #[_, _, _, _, _] I69 rfl rfl rfl rfl rfl (Nat.le_of_ble_eq_true rfl) (by simp [Value.oneCell']) rfl gno ?_)
     refine RV.nil (KV.then_n (KV.e5 2 4 5 6 8 (CV.seq (CV.region ?_))))
     refine RV.s (Step.loadN _ Tryz.underlying72 rfl I72 rfl rfl (fun w h => h.cells 2 rfl)) rfl (RV.m rfl rfl (RV.s (Step.eql rfl rfl) rfl (RV.m rfl rfl (RV.gw rfl (Step.move rfl) rfl (RV.gw rfl (Step.eql rfl rfl) rfl (RV.s (Step.pick_t rfl rfl) rfl (RV.m rfl rfl ?_)))))))
     refine RV.gw rfl (Step.move rfl) rfl (RV.gw rfl (Step.neqP Tryz.underlying67 rfl rfl) rfl (RV.s (Step.pick_t rfl rfl) rfl ?_))
     refine RV.op (OV.store 1 [_, _, _, _, _] #[_, _, _, _, _] I72 rfl rfl rfl rfl rfl (Nat.le_of_ble_eq_true rfl) (by simp [Value.oneCell']) rfl gno ?_)
     refine RV.a rfl rfl ?_
     refine RV.nil (KV.then_n (KV.e2 2 3 (CV.ret ?_)))
     refine KV.sel [4, 1] [_, _] rfl ?_
     exact KV.retC2 [_, _, _, _, _] rfl rfl rfl Tryz.underlying72 rfl I72 rfl (fun w h => h.cells 1 rfl) [_] (fun _ h => h.sel [0] rfl) ⟨_, _, _, _, _, _, _, _, rfl, rfl⟩
  ·
   refine OV.box (t := 227) #[_, _, _, _, _, _, _, _, _, _, _, _, _, _, _, _, _, _, _, _, _, _, _, _, _, _, _, _, _, _, _, _, _, _, _, _, _, _, _, _, _, _, _, _, _, _, _, _, _, _, _, _, _, _, _, _, _, _, _, _, _, _, _, _, _, _, _, _, _, _, _, _, _, _, _, _, _, _, _, _, _, _, _, _, _, _, _, _, _, _, _, _, _, _, _, _, _, _, _, _, _, _, _, _, _, _, _, _, _, _, _, _, _, _, _, _, _, _, _, _, _, _, _, _, _, _, _, _, _, _, _, _, _, _, _, _, _, _, _, _, _, _, _, _, _, _, _, _, _, _, _, _, _, _, _, _, _, _, _, _, _, _, _, _, _, _, _, _, _, _, _, _, _, _, _, _, _, _, _, _, _, _, _, _, _, _, _, _, _, _, _, _, _, _, _, _, _, _, _, _, _, _, _, _, _, _, _, _, _, _, _, _, _, _, _, _, _, _, _, _, _, _, _, _, _, _, _, _, _, _, _, _, _, _, _, _, _, _, _, _, _, _, _, _, _, _, _, _, _, _, _, _, _, _, _, _, _, _, _] rfl rfl gno rfl (fun b1_2 => ?_)
   refine AV.next (bl 9 190) (by kernel_rfl) (fun _ h => h.sel [0] rfl) ?_
   refine AV.all [0] (by kernel_rfl) (by decide) ?_
   refine ⟨⟨_, rfl, ?_⟩, trivial⟩
   ·
    refine OV.call [] (F := [_, _, _, _]) Tryz.func32 B32 N32 rfl rfl (fun w h => busNew_fn) (fun _ hb => hb.elim) gno rfl (fun v L' hp => ?_)
    obtain ⟨⟨bb, rfl⟩, rfl⟩ := hp
    simp only [List.append_nil]
    refine AV.next (bl 9 191) (by kernel_rfl) (fun _ h => h.sel [0] rfl) ?_
    refine AV.u 6 (bl 9 255) rfl gno (Step.build rfl (Bd72_1_3_4 _ _ _)) rfl (fun _ h => h.sel [0] rfl) ?_
    refine AV.all [8] (by kernel_rfl) (by decide) ?_
    refine ⟨⟨_, rfl, ?_⟩, trivial⟩
    ·
     refine OV.store 2 [_, _, _, _, _] #[_, _, _, _, _] I72 rfl rfl rfl rfl rfl (Nat.le_of_ble_eq_true rfl) (by simp [Value.oneCell']) rfl gno ?_
     refine AV.next (bl 9 511) (by kernel_rfl) (fun _ h => h.sel [0] rfl) ?_
     refine AV.done (by kernel_rfl) ?_
     refine KV.then_n (KV.e3 1 2 4 (CV.seq (CV.seq (CV.region ?_))))
     refine RV.s (Step.fieldAddr rfl (F72_1 _ _)) rfl ?_
     (first | refine RV.op (OV.step gno (Step.load Tryz.underlying68 rfl rfl (fun w h => h.cell 0 rfl rfl)) rfl ?_) | refine RV.op (OV.step gno (Step.load Tryz.underlying68 rfl rfl (fun w h => h.cell 1 rfl rfl)) rfl ?_) | refine RV.op (OV.step gno (Step.load Tryz.underlying68 rfl rfl (fun w h => h.cell 2 rfl rfl)) rfl ?_))
     refine RV.s (Step.eqlP Tryz.underlying68 rfl rfl) rfl ?_
     refine RV.nil (KV.then_n (KV.e4 1 2 4 18 (CV.cond_f rfl (CV.skip (KV.then_n ?_)))))
     refine KV.e3 1 2 4 (CV.seq (CV.region ?_))
     refine RV.s (Step.fieldAddr rfl (F87_0 _ _)) rfl ?_
     (first | refine RV.op (OV.step gno (Step.load Tryz.underlying83 rfl rfl (fun w h => h.cell 0 rfl rfl)) rfl ?_) | refine RV.op (OV.step gno (Step.load Tryz.underlying83 rfl rfl (fun w h => h.cell 1 rfl rfl)) rfl ?_) | refine RV.op (OV.step gno (Step.load Tryz.underlying83 rfl rfl (fun w h => h.cell 2 rfl rfl)) rfl ?_))
     refine RV.s (Step.fieldAddr rfl (F87_1 _ _)) rfl ?_
     (first | refine RV.op (OV.step gno (Step.load Tryz.underlying84 rfl rfl (fun w h => h.cell 0 rfl rfl)) rfl ?_) | refine RV.op (OV.step gno (Step.load Tryz.underlying84 rfl rfl (fun w h => h.cell 1 rfl rfl)) rfl ?_) | refine RV.op (OV.step gno (Step.load Tryz.underlying84 rfl rfl (fun w h => h.cell 2 rfl rfl)) rfl ?_))
     refine RV.s (Step.fieldAddr rfl (F87_2 _ _)) rfl ?_
     (first | refine RV.op (OV.step gno (Step.load Tryz.underlying85 rfl rfl (fun w h => h.cell 0 rfl rfl)) rfl ?_) | refine RV.op (OV.step gno (Step.load Tryz.underlying85 rfl rfl (fun w h => h.cell 1 rfl rfl)) rfl ?_) | refine RV.op (OV.step gno (Step.load Tryz.underlying85 rfl rfl (fun w h => h.cell 2 rfl rfl)) rfl ?_))
     refine RV.s (Step.fieldAddr rfl (F72_1 _ _)) rfl ?_
     (first | refine RV.op (OV.step gno (Step.load Tryz.underlying68 rfl rfl (fun w h => h.cell 0 rfl rfl)) rfl ?_) | refine RV.op (OV.step gno (Step.load Tryz.underlying68 rfl rfl (fun w h => h.cell 1 rfl rfl)) rfl ?_) | refine RV.op (OV.step gno (Step.load Tryz.underlying68 rfl rfl (fun w h => h.cell 2 rfl rfl)) rfl ?_))
     refine RV.op (OV.call [] (F := [_, _, _, _]) Tryz.func33 B33 N33 rfl rfl (fun w h => powerNew0_fn _) (fun _ hb => hb.elim) gno rfl (fun v L' hp => ?_))
     obtain ⟨p, tp, mp, Ap, cp, rfl, rfl⟩ := hp
     refine RV.m rfl rfl (RV.s (Step.extract0 rfl rfl) rfl (RV.s (Step.extract0 rfl rfl) rfl (RV.a rfl rfl (RV.a rfl rfl ?_))))
     refine RV.nil (KV.then_n (KV.e5 1 2 4 5 6 (CV.seq (CV.region ?_))))
     refine RV.s (Step.fieldAddr rfl (F87_0 _ _)) rfl ?_
     (first | refine RV.op (OV.step gno (Step.load Tryz.underlying83 rfl rfl (fun w h => h.cell 0 rfl rfl)) rfl ?_) | refine RV.op (OV.step gno (Step.load Tryz.underlying83 rfl rfl (fun w h => h.cell 1 rfl rfl)) rfl ?_) | refine RV.op (OV.step gno (Step.load Tryz.underlying83 rfl rfl (fun w h => h.cell 2 rfl rfl)) rfl ?_))
     refine RV.s (Step.fieldAddr rfl (F87_1 _ _)) rfl ?_
     (first | refine RV.op (OV.step gno (Step.load Tryz.underlying84 rfl rfl (fun w h => h.cell 0 rfl rfl)) rfl ?_) | refine RV.op (OV.step gno (Step.load Tryz.underlying84 rfl rfl (fun w h => h.cell 1 rfl rfl)) rfl ?_) | refine RV.op (OV.step gno (Step.load Tryz.underlying84 rfl rfl (fun w h => h.cell 2 rfl rfl)) rfl ?_))
     refine RV.s (Step.fieldAddr rfl (F87_2 _ _)) rfl ?_
     (first | refine RV.op (OV.step gno (Step.load Tryz.underlying85 rfl rfl (fun w h => h.cell 0 rfl rfl)) rfl ?_) | refine RV.op (OV.step gno (Step.load Tryz.underlying85 rfl rfl (fun w h => h.cell 1 rfl rfl)) rfl ?_) | refine RV.op (OV.step gno (Step.load Tryz.underlying85 rfl rfl (fun w h => h.cell 2 rfl rfl)) rfl ?_))
     refine RV.s (Step.fieldAddr rfl (F72_3 _ _)) rfl ?_
     (first | refine RV.op (OV.step gno (Step.load Tryz.underlying70 rfl rfl (fun w h => h.cell 0 rfl rfl)) rfl ?_) | refine RV.op (OV.step gno (Step.load Tryz.underlying70 rfl rfl (fun w h => h.cell 1 rfl rfl)) rfl ?_) | refine RV.op (OV.step gno (Step.load Tryz.underlying70 rfl rfl (fun w h => h.cell 2 rfl rfl)) rfl ?_))
     refine RV.op (OV.call [] (F := [_, _, _, _, _]) Tryz.func90 B90 N90 rfl rfl (fun w h => powerNewR0_fn _) (fun _ hb => hb.elim) gno rfl (fun v L' hp => ?_))
     obtain ⟨⟨qq, rfl⟩, rfl⟩ := hp
     simp only [List.append_nil]
     refine RV.m rfl rfl (RV.s (Step.extract0 rfl rfl) rfl (RV.s (Step.extract0 rfl rfl) rfl (RV.a rfl rfl (RV.a rfl rfl ?_))))
     refine RV.nil (KV.then_n (KV.e6 2 4 5 6 7 8 (CV.seq (CV.region ?_))))
     refine RV.m rfl rfl (RV.m rfl rfl (RV.s (Step.fieldAddr rfl (F72_0 _ _)) rfl ?_))
     refine RV.op (OV.store 2 [_] #[_, _, _, _, _] I67 rfl rfl rfl rfl rfl (Nat.le_of_ble_eq_true rfl) (by simp [Value.oneCell']) rfl gno ?_)
     refine RV.s (Step.fieldAddr rfl (F72_2 _ _)) rfl ?_
     refine RV.op (OV.store 2 [_] #[_, _, _, _, _] I69 rfl rfl rfl rfl rfl (Nat.le_of_ble_eq_true rfl) (by simp [Value.oneCell']) rfl gno ?_)
     refine RV.nil (KV.then_n (KV.e5 2 4 5 6 8 (CV.seq (CV.region ?_))))
     refine RV.s (Step.loadN _ Tryz.underlying72 rfl I72 rfl rfl (fun w h => h.cells 2 rfl)) rfl (RV.m rfl rfl (RV.s (Step.eql rfl rfl) rfl (RV.m rfl rfl (RV.gw rfl (Step.move rfl) rfl (RV.gw rfl (Step.eql rfl rfl) rfl (RV.s (Step.pick_t rfl rfl) rfl (RV.m rfl rfl ?_)))))))
     refine RV.gw rfl (Step.move rfl) rfl (RV.gw rfl (Step.neqP Tryz.underlying67 rfl rfl) rfl (RV.s (Step.pick_t rfl rfl) rfl ?_))
     refine RV.op (OV.store 1 [_, _, _, _, _] #[_, _, _, _, _] I72 rfl rfl rfl rfl rfl (Nat.le_of_ble_eq_true rfl) (by simp [Value.oneCell']) rfl gno ?_)
     refine RV.a rfl rfl ?_
     refine RV.nil (KV.then_n (KV.e2 2 3 (CV.ret ?_)))
     refine KV.sel [4, 1] [_, _] rfl ?_
     exact KV.retC2 [_, _, _, _, _] rfl rfl rfl Tryz.underlying72 rfl I72 rfl (fun w h => h.cells 1 rfl) [_] (fun _ h => h.sel [0] rfl) ⟨_, _, _, _, _, _, _, _, rfl, rfl⟩
end Go.Proofs.YtdfkpdcpegcieaaGreatDoor
