/-
 Walks, part 24.
-/
import Derived.Test.YtdfkpdcpegcieaaGreatDoorTab24
import Derived.Test.YtdfkpdcpegcieaaGreatDoorW23
import Derived.Test.YtdfkpdcpegcieaaGreatDoorAvC
set_option linter.unusedSimpArgs false
set_option linter.unusedVariables false
namespace Go.Proofs.YtdfkpdcpegcieaaGreatDoor
open Go.Sv Go.Perf Go.Ctl
set_option maxRecDepth 100000 in
set_option maxHeartbeats 1000000 in
theorem powerNewR0_fn (bp : Option Addr) {w : World} : Fx Tryz.prog 90 [.slice none 0 0, .slice none 0 0, .slice none 0 0, .pointer bp] w [] no (fun v L => (∃ b, v = .tuple #[.pointer (some ⟨b, 0, none⟩), .int .i64 0]) ∧ L = []) := by
 refine Sv.Fx.body Tryz.func90 rfl T90 rfl ?_
 intro I hro hI
 refine KV.e4 0 1 2 3 (CV.seq (CV.region ?_))
 refine RV.a rfl rfl (RV.a rfl rfl ?_)
 refine RV.nil (KV.then_n (KV.e4 0 1 2 3 (CV.seq (CV.seq (CV.region ?_)))))
 refine RV.m rfl rfl (RV.m rfl rfl (RV.m rfl rfl ?_))
 refine RV.op (OV.call [] (F := []) Tryz.func123 B123 N123 rfl rfl (fun w h => validDev0_fn) (fun _ hb => hb.elim) gno rfl (fun v L' hp => ?_))
 obtain ⟨rfl, rfl⟩ := hp
 simp only [List.append_nil]
 refine RV.s (Step.not rfl) rfl ?_
 refine RV.nil (KV.then_n (KV.e5 0 1 2 3 26 (CV.cond_f rfl (CV.skip (KV.then_n ?_)))))
 refine KV.e4 0 1 2 3 (CV.seq (CV.region ?_))
 refine RV.m rfl rfl (RV.s (Step.lenSl Tryz.underlying83 rfl) rfl (RV.a rfl rfl ?_))
 refine RV.nil (KV.then_n (KV.e5 0 1 2 3 10 (CV.seq ?_)))
 refine CV.any (Hp I w []) (by kernel_rfl) (fun _ h => h.drew) 15 rfl ?_
 refine AV.cutAt (α := G5) (bl 15 4095) 3 (fun z => [(0, .slice none 0 0), (1, .slice none 0 0), (2, .slice none 0 0), (3, .pointer bp), (10, .int .i64 0), (29, .slice none 0 0), (30, .slice none 0 0), (32, .pointer bp), (33, .int .i64 0), (35, .int .i64 0), (37, .int .i64 0), (39, .int .i64 0), (31, .slice z.a 0 z.n), (34, .slice z.b 0 0), (36, .slice z.c 0 0), (38, .slice z.d 0 0), (40, .slice z.e 0 0)]) (fun _ => Hp I w []) (fun z => ?_) (fun h2_5_7_9_11 => ?_)
 ·
  skip
  refine AV.u 12 (bl 15 8191) rfl gno (Step.build rfl (Bd287_0_1_2_6_7_8_9 _ _ _ _ _ _ _ _ _ _ _ _ _ _ _ _ _ _ _)) rfl (fun _ h => h.sel [] rfl) ?_
  refine AV.all [13] (by kernel_rfl) (by decide) ?_
  refine ⟨⟨_, rfl, ?_⟩, trivial⟩
  ·
   refine OV.box (t := 287) #[_, _, _, _, _, _, _, _, _, _, _] rfl rfl gno rfl (fun b4_13 => ?_)
   refine AV.next (bl 15 16383) (by kernel_rfl) (fun _ h => h.sel [] rfl) ?_
   refine AV.u 14 (bl 15 32767) rfl gno (Step.assign rfl) rfl (fun _ h => h.sel [] rfl) ?_
   refine AV.done (by kernel_rfl) ?_
   refine KV.then_n (KV.e6 0 1 2 3 10 11 (CV.seq (CV.region ?_)))
   refine RV.a rfl rfl ?_
   refine RV.nil (KV.then_n (KV.e7 0 1 2 3 10 11 12 (CV.seq (CV.region ?_))))
   refine RV.a rfl rfl ?_
   refine RV.nil (KV.then_n (KV.e8 0 1 2 3 10 11 12 13 (CV.seq (CV.seq (CV.region ?_)))))
   refine RV.a rfl rfl ?_
   refine RV.nil (KV.then_n (KV.e9 0 1 2 3 10 11 12 13 14 (CV.block (KV.e9 0 1 2 3 10 11 12 13 14 ?_))))
   refine CV.loop0 ⟨rfl, rfl, rfl, rfl, rfl, rfl, rfl, rfl, rfl, trivial⟩ (fun _ => ?_)
   refine CV.seq (CV.seq (CV.region ?_))
   refine RV.m rfl rfl (RV.m rfl rfl (RV.s (Step.lss rfl rfl) rfl ?_))
   refine RV.nil (KV.then_n (KV.e10 0 1 2 3 10 11 12 13 14 45 (CV.cond_f rfl (CV.exit (KV.then_exit ?_)))))
   refine KV.then_exit (KV.block_hit (KV.then_n (KV.e4 1 11 12 13 (CV.seq (CV.region ?_)))))
   refine RV.m rfl rfl (RV.m rfl rfl (RV.m rfl rfl ?_))
   refine RV.op (OV.call [] (F := [_]) Tryz.func129 B129 N129 rfl rfl (fun w h => devNewR0_fn) (fun _ hb => hb.elim) gno rfl (fun v L' hp => ?_))
   obtain ⟨⟨bd, rfl⟩, rfl⟩ := hp
   simp only [List.append_nil]
   refine RV.m rfl rfl (RV.s (Step.extract0 rfl rfl) rfl (RV.s (Step.extract0 rfl rfl) rfl (RV.s (Step.nilCheck rfl) rfl (RV.s (Step.fieldAddr rfl (F287_3 _ _)) rfl ?_))))
   refine RV.op (OV.store 0 [_] #[_, _, _, _, _, _, _, _, _, _, _] I283 rfl rfl rfl rfl rfl (Nat.le_of_ble_eq_true rfl) (by simp [Value.oneCell']) rfl gno ?_)
   refine RV.nil (KV.then_n (KV.e2 11 13 (CV.seq (CV.region ?_))))
   refine RV.m rfl rfl (RV.m rfl rfl ?_)
   refine RV.op (OV.call [] (F := [_]) Tryz.func130 B130 N130 rfl rfl (fun w h => rpmNewR0_fn) (fun _ hb => hb.elim) gno rfl (fun v L' hp => ?_))
   obtain ⟨⟨bm, rfl⟩, rfl⟩ := hp
   simp only [List.append_nil]
   refine RV.m rfl rfl (RV.s (Step.extract0 rfl rfl) rfl (RV.s (Step.extract0 rfl rfl) rfl (RV.s (Step.nilCheck rfl) rfl (RV.s (Step.fieldAddr rfl (F287_4 _ _)) rfl ?_))))
   refine RV.op (OV.store 0 [_] #[_, _, _, _, _, _, _, _, _, _, _] I284 rfl rfl rfl rfl rfl (Nat.le_of_ble_eq_true rfl) (by simp [Value.oneCell']) rfl gno ?_)
   refine RV.nil (KV.then_n (KV.e1 11 (CV.seq (CV.region ?_))))
   refine RV.m rfl rfl (RV.a rfl rfl (RV.a rfl rfl ?_))
   refine RV.nil (KV.then_n (KV.e2 8 9 (CV.ret ?_)))
   refine KV.sel [] [] rfl ?_
   exact KV.ret2 rfl rfl rfl _ (fun _ h => h) ⟨⟨_, rfl⟩, rfl⟩
 refine AV.cutAt (α := G5) (bl 15 2047) 4 (fun z => [(0, .slice none 0 0), (1, .slice none 0 0), (2, .slice none 0 0), (3, .pointer bp), (10, .int .i64 0), (29, .slice none 0 0), (30, .slice none 0 0), (32, .pointer bp), (33, .int .i64 0), (35, .int .i64 0), (37, .int .i64 0), (39, .int .i64 0), (31, .slice z.a 0 z.n), (34, .slice z.b 0 0), (36, .slice z.c 0 0), (38, .slice z.d 0 0)]) (fun _ => Hp I w []) (fun z => ?_) (fun h2_5_7_9 => ?_)
 ·
  skip
  refine AV.all [11] (by kernel_rfl) (by decide) ?_
  refine ⟨⟨_, rfl, ?_⟩, trivial⟩
  ·
   skip
   refine OV.make (K := (intK .i64)) (0) (0) (0) Tryz.underlying48 I3 rfl rfl rfl rfl rfl (by omega) (by omega) (by omega) gno rfl (fun b4_11 => ?_)
   refine AV.next (bl 15 4095) (by kernel_rfl) (fun _ h => h.sel [] rfl) ?_
   exact AV.to (h2_5_7_9_11 { (z : G5) with e := b4_11 }) ⟨rfl, rfl, rfl, rfl, rfl, rfl, rfl, rfl, rfl, rfl, rfl, rfl, rfl, rfl, rfl, rfl, rfl, trivial⟩ (fun _ h => h.sel [] rfl)
 refine AV.cutAt (α := G5) (bl 15 3583) 4 (fun z => [(0, .slice none 0 0), (1, .slice none 0 0), (2, .slice none 0 0), (3, .pointer bp), (10, .int .i64 0), (29, .slice none 0 0), (30, .slice none 0 0), (32, .pointer bp), (33, .int .i64 0), (35, .int .i64 0), (37, .int .i64 0), (39, .int .i64 0), (31, .slice z.a 0 z.n), (34, .slice z.b 0 0), (36, .slice z.c 0 0), (40, .slice z.e 0 0)]) (fun _ => Hp I w []) (fun z => ?_) (fun h2_5_7_11 => ?_)
 ·
  skip
  refine AV.all [9] (by kernel_rfl) (by decide) ?_
  refine ⟨⟨_, rfl, ?_⟩, trivial⟩
  ·
   skip
   refine OV.make (K := bolK) (0) (0) (false) Tryz.underlying202 I4 rfl rfl rfl rfl rfl (by omega) (by omega) (by omega) gno rfl (fun b4_9 => ?_)
   refine AV.next (bl 15 4095) (by kernel_rfl) (fun _ h => h.sel [] rfl) ?_
   exact AV.to (h2_5_7_9_11 { (z : G5) with d := b4_9 }) ⟨rfl, rfl, rfl, rfl, rfl, rfl, rfl, rfl, rfl, rfl, rfl, rfl, rfl, rfl, rfl, rfl, rfl, trivial⟩ (fun _ h => h.sel [] rfl)
 refine AV.cutAt (α := G5) (bl 15 3967) 4 (fun z => [(0, .slice none 0 0), (1, .slice none 0 0), (2, .slice none 0 0), (3, .pointer bp), (10, .int .i64 0), (29, .slice none 0 0), (30, .slice none 0 0), (32, .pointer bp), (33, .int .i64 0), (35, .int .i64 0), (37, .int .i64 0), (39, .int .i64 0), (31, .slice z.a 0 z.n), (34, .slice z.b 0 0), (38, .slice z.d 0 0), (40, .slice z.e 0 0)]) (fun _ => Hp I w []) (fun z => ?_) (fun h2_5_9_11 => ?_)
 ·
  skip
  refine AV.all [7] (by kernel_rfl) (by decide) ?_
  refine ⟨⟨_, rfl, ?_⟩, trivial⟩
  ·
   skip
   refine OV.make (K := nslK) (0) (0) (()) Tryz.underlying282 I176 rfl rfl rfl rfl rfl (by omega) (by omega) (by omega) gno rfl (fun b4_7 => ?_)
   refine AV.next (bl 15 4095) (by kernel_rfl) (fun _ h => h.sel [] rfl) ?_
   exact AV.to (h2_5_7_9_11 { (z : G5) with c := b4_7 }) ⟨rfl, rfl, rfl, rfl, rfl, rfl, rfl, rfl, rfl, rfl, rfl, rfl, rfl, rfl, rfl, rfl, rfl, trivial⟩ (fun _ h => h.sel [] rfl)
 refine AV.cutAt (α := G5) (bl 15 4063) 4 (fun z => [(0, .slice none 0 0), (1, .slice none 0 0), (2, .slice none 0 0), (3, .pointer bp), (10, .int .i64 0), (29, .slice none 0 0), (30, .slice none 0 0), (32, .pointer bp), (33, .int .i64 0), (35, .int .i64 0), (37, .int .i64 0), (39, .int .i64 0), (31, .slice z.a 0 z.n), (36, .slice z.c 0 0), (38, .slice z.d 0 0), (40, .slice z.e 0 0)]) (fun _ => Hp I w []) (fun z => ?_) (fun h2_7_9_11 => ?_)
 ·
  skip
  refine AV.all [5] (by kernel_rfl) (by decide) ?_
  refine ⟨⟨_, rfl, ?_⟩, trivial⟩
  ·
   skip
   refine OV.make (K := bolK) (0) (0) (false) Tryz.underlying202 I4 rfl rfl rfl rfl rfl (by omega) (by omega) (by omega) gno rfl (fun b4_5 => ?_)
   refine AV.next (bl 15 4095) (by kernel_rfl) (fun _ h => h.sel [] rfl) ?_
   exact AV.to (h2_5_7_9_11 { (z : G5) with b := b4_5 }) ⟨rfl, rfl, rfl, rfl, rfl, rfl, rfl, rfl, rfl, rfl, rfl, rfl, rfl, rfl, rfl, rfl, rfl, trivial⟩ (fun _ h => h.sel [] rfl)
 refine AV.cutAt (α := G5) (bl 15 4091) 4 (fun z => [(0, .slice none 0 0), (1, .slice none 0 0), (2, .slice none 0 0), (3, .pointer bp), (10, .int .i64 0), (29, .slice none 0 0), (30, .slice none 0 0), (32, .pointer bp), (33, .int .i64 0), (35, .int .i64 0), (37, .int .i64 0), (39, .int .i64 0), (34, .slice z.b 0 0), (36, .slice z.c 0 0), (38, .slice z.d 0 0), (40, .slice z.e 0 0)]) (fun _ => Hp I w []) (fun z => ?_) (fun h5_7_9_11 => ?_)
 ·
  skip
  refine AV.all [2] (by kernel_rfl) (by decide) ?_
  refine ⟨⟨_, rfl, ?_⟩, trivial⟩
  ·
   skip
   refine KV.heap (fun w h => h.nilOS (e := 24) (K := intK .u64)) ?_
   refine OV.append 0 Tryz.underlying85 I24 rfl rfl rfl rfl rfl rfl (fun w h => (RS.nil (K := intK .u64))) (by simp only [List.length_nil]; omega) (by simp only [List.length_nil]; omega) gno rfl (fun b4_2a b4_2c => ?_)
   refine AV.next (bl 15 4095) (by kernel_rfl) (fun _ h => h.sel [] rfl) ?_
   exact AV.to (h2_5_7_9_11 { (z : G5) with a := b4_2a, n := b4_2c }) ⟨rfl, rfl, rfl, rfl, rfl, rfl, rfl, rfl, rfl, rfl, rfl, rfl, rfl, rfl, rfl, rfl, rfl, trivial⟩ (fun _ h => h.sel [] rfl)
 refine AV.cutAt (α := G5) (bl 15 1535) 5 (fun z => [(0, .slice none 0 0), (1, .slice none 0 0), (2, .slice none 0 0), (3, .pointer bp), (10, .int .i64 0), (29, .slice none 0 0), (30, .slice none 0 0), (32, .pointer bp), (33, .int .i64 0), (35, .int .i64 0), (37, .int .i64 0), (39, .int .i64 0), (31, .slice z.a 0 z.n), (34, .slice z.b 0 0), (36, .slice z.c 0 0)]) (fun _ => Hp I w []) (fun z => ?_) (fun h2_5_7 => ?_)
 ·
  skip
  refine AV.all [9, 11] (by kernel_rfl) (by decide) ?_
  refine ⟨⟨_, rfl, ?_⟩, ⟨⟨_, rfl, ?_⟩, trivial⟩⟩
  ·
   skip
   refine OV.make (K := bolK) (0) (0) (false) Tryz.underlying202 I4 rfl rfl rfl rfl rfl (by omega) (by omega) (by omega) gno rfl (fun b4_9 => ?_)
   refine AV.next (bl 15 2047) (by kernel_rfl) (fun _ h => h.sel [] rfl) ?_
   exact AV.to (h2_5_7_9 { (z : G5) with d := b4_9 }) ⟨rfl, rfl, rfl, rfl, rfl, rfl, rfl, rfl, rfl, rfl, rfl, rfl, rfl, rfl, rfl, rfl, trivial⟩ (fun _ h => h.sel [] rfl)
  ·
   skip
   refine OV.make (K := (intK .i64)) (0) (0) (0) Tryz.underlying48 I3 rfl rfl rfl rfl rfl (by omega) (by omega) (by omega) gno rfl (fun b4_11 => ?_)
   refine AV.next (bl 15 3583) (by kernel_rfl) (fun _ h => h.sel [] rfl) ?_
   exact AV.to (h2_5_7_11 { (z : G5) with e := b4_11 }) ⟨rfl, rfl, rfl, rfl, rfl, rfl, rfl, rfl, rfl, rfl, rfl, rfl, rfl, rfl, rfl, rfl, trivial⟩ (fun _ h => h.sel [] rfl)
 refine AV.cutAt (α := G5) (bl 15 1919) 5 (fun z => [(0, .slice none 0 0), (1, .slice none 0 0), (2, .slice none 0 0), (3, .pointer bp), (10, .int .i64 0), (29, .slice none 0 0), (30, .slice none 0 0), (32, .pointer bp), (33, .int .i64 0), (35, .int .i64 0), (37, .int .i64 0), (39, .int .i64 0), (31, .slice z.a 0 z.n), (34, .slice z.b 0 0), (38, .slice z.d 0 0)]) (fun _ => Hp I w []) (fun z => ?_) (fun h2_5_9 => ?_)
 ·
  skip
  refine AV.all [7, 11] (by kernel_rfl) (by decide) ?_
  refine ⟨⟨_, rfl, ?_⟩, ⟨⟨_, rfl, ?_⟩, trivial⟩⟩
  ·
   skip
   refine OV.make (K := nslK) (0) (0) (()) Tryz.underlying282 I176 rfl rfl rfl rfl rfl (by omega) (by omega) (by omega) gno rfl (fun b4_7 => ?_)
   refine AV.next (bl 15 2047) (by kernel_rfl) (fun _ h => h.sel [] rfl) ?_
   exact AV.to (h2_5_7_9 { (z : G5) with c := b4_7 }) ⟨rfl, rfl, rfl, rfl, rfl, rfl, rfl, rfl, rfl, rfl, rfl, rfl, rfl, rfl, rfl, rfl, trivial⟩ (fun _ h => h.sel [] rfl)
  ·
   skip
   refine OV.make (K := (intK .i64)) (0) (0) (0) Tryz.underlying48 I3 rfl rfl rfl rfl rfl (by omega) (by omega) (by omega) gno rfl (fun b4_11 => ?_)
   refine AV.next (bl 15 3967) (by kernel_rfl) (fun _ h => h.sel [] rfl) ?_
   exact AV.to (h2_5_9_11 { (z : G5) with e := b4_11 }) ⟨rfl, rfl, rfl, rfl, rfl, rfl, rfl, rfl, rfl, rfl, rfl, rfl, rfl, rfl, rfl, rfl, trivial⟩ (fun _ h => h.sel [] rfl)
 refine AV.cutAt (α := G5) (bl 15 3455) 5 (fun z => [(0, .slice none 0 0), (1, .slice none 0 0), (2, .slice none 0 0), (3, .pointer bp), (10, .int .i64 0), (29, .slice none 0 0), (30, .slice none 0 0), (32, .pointer bp), (33, .int .i64 0), (35, .int .i64 0), (37, .int .i64 0), (39, .int .i64 0), (31, .slice z.a 0 z.n), (34, .slice z.b 0 0), (40, .slice z.e 0 0)]) (fun _ => Hp I w []) (fun z => ?_) (fun h2_5_11 => ?_)
 ·
  skip
  refine AV.all [7, 9] (by kernel_rfl) (by decide) ?_
  refine ⟨⟨_, rfl, ?_⟩, ⟨⟨_, rfl, ?_⟩, trivial⟩⟩
  ·
   skip
   refine OV.make (K := nslK) (0) (0) (()) Tryz.underlying282 I176 rfl rfl rfl rfl rfl (by omega) (by omega) (by omega) gno rfl (fun b4_7 => ?_)
   refine AV.next (bl 15 3583) (by kernel_rfl) (fun _ h => h.sel [] rfl) ?_
   exact AV.to (h2_5_7_11 { (z : G5) with c := b4_7 }) ⟨rfl, rfl, rfl, rfl, rfl, rfl, rfl, rfl, rfl, rfl, rfl, rfl, rfl, rfl, rfl, rfl, trivial⟩ (fun _ h => h.sel [] rfl)
  ·
   skip
   refine OV.make (K := bolK) (0) (0) (false) Tryz.underlying202 I4 rfl rfl rfl rfl rfl (by omega) (by omega) (by omega) gno rfl (fun b4_9 => ?_)
   refine AV.next (bl 15 3967) (by kernel_rfl) (fun _ h => h.sel [] rfl) ?_
   exact AV.to (h2_5_9_11 { (z : G5) with d := b4_9 }) ⟨rfl, rfl, rfl, rfl, rfl, rfl, rfl, rfl, rfl, rfl, rfl, rfl, rfl, rfl, rfl, rfl, trivial⟩ (fun _ h => h.sel [] rfl)
 refine AV.cutAt (α := G5) (bl 15 2015) 5 (fun z => [(0, .slice none 0 0), (1, .slice none 0 0), (2, .slice none 0 0), (3, .pointer bp), (10, .int .i64 0), (29, .slice none 0 0), (30, .slice none 0 0), (32, .pointer bp), (33, .int .i64 0), (35, .int .i64 0), (37, .int .i64 0), (39, .int .i64 0), (31, .slice z.a 0 z.n), (36, .slice z.c 0 0), (38, .slice z.d 0 0)]) (fun _ => Hp I w []) (fun z => ?_) (fun h2_7_9 => ?_)
 ·
  skip
  refine AV.all [5, 11] (by kernel_rfl) (by decide) ?_
  refine ⟨⟨_, rfl, ?_⟩, ⟨⟨_, rfl, ?_⟩, trivial⟩⟩
  ·
   skip
   refine OV.make (K := bolK) (0) (0) (false) Tryz.underlying202 I4 rfl rfl rfl rfl rfl (by omega) (by omega) (by omega) gno rfl (fun b4_5 => ?_)
   refine AV.next (bl 15 2047) (by kernel_rfl) (fun _ h => h.sel [] rfl) ?_
   exact AV.to (h2_5_7_9 { (z : G5) with b := b4_5 }) ⟨rfl, rfl, rfl, rfl, rfl, rfl, rfl, rfl, rfl, rfl, rfl, rfl, rfl, rfl, rfl, rfl, trivial⟩ (fun _ h => h.sel [] rfl)
  ·
   skip
   refine OV.make (K := (intK .i64)) (0) (0) (0) Tryz.underlying48 I3 rfl rfl rfl rfl rfl (by omega) (by omega) (by omega) gno rfl (fun b4_11 => ?_)
   refine AV.next (bl 15 4063) (by kernel_rfl) (fun _ h => h.sel [] rfl) ?_
   exact AV.to (h2_7_9_11 { (z : G5) with e := b4_11 }) ⟨rfl, rfl, rfl, rfl, rfl, rfl, rfl, rfl, rfl, rfl, rfl, rfl, rfl, rfl, rfl, rfl, trivial⟩ (fun _ h => h.sel [] rfl)
 refine AV.cutAt (α := G5) (bl 15 3551) 5 (fun z => [(0, .slice none 0 0), (1, .slice none 0 0), (2, .slice none 0 0), (3, .pointer bp), (10, .int .i64 0), (29, .slice none 0 0), (30, .slice none 0 0), (32, .pointer bp), (33, .int .i64 0), (35, .int .i64 0), (37, .int .i64 0), (39, .int .i64 0), (31, .slice z.a 0 z.n), (36, .slice z.c 0 0), (40, .slice z.e 0 0)]) (fun _ => Hp I w []) (fun z => ?_) (fun h2_7_11 => ?_)
 ·
  skip
  refine AV.all [5, 9] (by kernel_rfl) (by decide) ?_
  refine ⟨⟨_, rfl, ?_⟩, ⟨⟨_, rfl, ?_⟩, trivial⟩⟩
  ·
   skip
   refine OV.make (K := bolK) (0) (0) (false) Tryz.underlying202 I4 rfl rfl rfl rfl rfl (by omega) (by omega) (by omega) gno rfl (fun b4_5 => ?_)
   refine AV.next (bl 15 3583) (by kernel_rfl) (fun _ h => h.sel [] rfl) ?_
   exact AV.to (h2_5_7_11 { (z : G5) with b := b4_5 }) ⟨rfl, rfl, rfl, rfl, rfl, rfl, rfl, rfl, rfl, rfl, rfl, rfl, rfl, rfl, rfl, rfl, trivial⟩ (fun _ h => h.sel [] rfl)
  ·
   skip
   refine OV.make (K := bolK) (0) (0) (false) Tryz.underlying202 I4 rfl rfl rfl rfl rfl (by omega) (by omega) (by omega) gno rfl (fun b4_9 => ?_)
   refine AV.next (bl 15 4063) (by kernel_rfl) (fun _ h => h.sel [] rfl) ?_
   exact AV.to (h2_7_9_11 { (z : G5) with d := b4_9 }) ⟨rfl, rfl, rfl, rfl, rfl, rfl, rfl, rfl, rfl, rfl, rfl, rfl, rfl, rfl, rfl, rfl, trivial⟩ (fun _ h => h.sel [] rfl)
 refine AV.cutAt (α := G5) (bl 15 3935) 5 (fun z => [(0, .slice none 0 0), (1, .slice none 0 0), (2, .slice none 0 0), (3, .pointer bp), (10, .int .i64 0), (29, .slice none 0 0), (30, .slice none 0 0), (32, .pointer bp), (33, .int .i64 0), (35, .int .i64 0), (37, .int .i64 0), (39, .int .i64 0), (31, .slice z.a 0 z.n), (38, .slice z.d 0 0), (40, .slice z.e 0 0)]) (fun _ => Hp I w []) (fun z => ?_) (fun h2_9_11 => ?_)
 ·
  skip
  refine AV.all [5, 7] (by kernel_rfl) (by decide) ?_
  refine ⟨⟨_, rfl, ?_⟩, ⟨⟨_, rfl, ?_⟩, trivial⟩⟩
  ·
   skip
   refine OV.make (K := bolK) (0) (0) (false) Tryz.underlying202 I4 rfl rfl rfl rfl rfl (by omega) (by omega) (by omega) gno rfl (fun b4_5 => ?_)
   refine AV.next (bl 15 3967) (by kernel_rfl) (fun _ h => h.sel [] rfl) ?_
   exact AV.to (h2_5_9_11 { (z : G5) with b := b4_5 }) ⟨rfl, rfl, rfl, rfl, rfl, rfl, rfl, rfl, rfl, rfl, rfl, rfl, rfl, rfl, rfl, rfl, trivial⟩ (fun _ h => h.sel [] rfl)
  ·
   skip
   refine OV.make (K := nslK) (0) (0) (()) Tryz.underlying282 I176 rfl rfl rfl rfl rfl (by omega) (by omega) (by omega) gno rfl (fun b4_7 => ?_)
   refine AV.next (bl 15 4063) (by kernel_rfl) (fun _ h => h.sel [] rfl) ?_
   exact AV.to (h2_7_9_11 { (z : G5) with c := b4_7 }) ⟨rfl, rfl, rfl, rfl, rfl, rfl, rfl, rfl, rfl, rfl, rfl, rfl, rfl, rfl, rfl, rfl, trivial⟩ (fun _ h => h.sel [] rfl)
 refine AV.cutAt (α := G5) (bl 15 2043) 5 (fun z => [(0, .slice none 0 0), (1, .slice none 0 0), (2, .slice none 0 0), (3, .pointer bp), (10, .int .i64 0), (29, .slice none 0 0), (30, .slice none 0 0), (32, .pointer bp), (33, .int .i64 0), (35, .int .i64 0), (37, .int .i64 0), (39, .int .i64 0), (34, .slice z.b 0 0), (36, .slice z.c 0 0), (38, .slice z.d 0 0)]) (fun _ => Hp I w []) (fun z => ?_) (fun h5_7_9 => ?_)
 ·
  skip
  refine AV.all [2, 11] (by kernel_rfl) (by decide) ?_
  refine ⟨⟨_, rfl, ?_⟩, ⟨⟨_, rfl, ?_⟩, trivial⟩⟩
  ·
   skip
   refine KV.heap (fun w h => h.nilOS (e := 24) (K := intK .u64)) ?_
   refine OV.append 0 Tryz.underlying85 I24 rfl rfl rfl rfl rfl rfl (fun w h => (RS.nil (K := intK .u64))) (by simp only [List.length_nil]; omega) (by simp only [List.length_nil]; omega) gno rfl (fun b4_2a b4_2c => ?_)
   refine AV.next (bl 15 2047) (by kernel_rfl) (fun _ h => h.sel [] rfl) ?_
   exact AV.to (h2_5_7_9 { (z : G5) with a := b4_2a, n := b4_2c }) ⟨rfl, rfl, rfl, rfl, rfl, rfl, rfl, rfl, rfl, rfl, rfl, rfl, rfl, rfl, rfl, rfl, trivial⟩ (fun _ h => h.sel [] rfl)
  ·
   skip
   refine OV.make (K := (intK .i64)) (0) (0) (0) Tryz.underlying48 I3 rfl rfl rfl rfl rfl (by omega) (by omega) (by omega) gno rfl (fun b4_11 => ?_)
   refine AV.next (bl 15 4091) (by kernel_rfl) (fun _ h => h.sel [] rfl) ?_
   exact AV.to (h5_7_9_11 { (z : G5) with e := b4_11 }) ⟨rfl, rfl, rfl, rfl, rfl, rfl, rfl, rfl, rfl, rfl, rfl, rfl, rfl, rfl, rfl, rfl, trivial⟩ (fun _ h => h.sel [] rfl)
 refine AV.cutAt (α := G5) (bl 15 3579) 5 (fun z => [(0, .slice none 0 0), (1, .slice none 0 0), (2, .slice none 0 0), (3, .pointer bp), (10, .int .i64 0), (29, .slice none 0 0), (30, .slice none 0 0), (32, .pointer bp), (33, .int .i64 0), (35, .int .i64 0), (37, .int .i64 0), (39, .int .i64 0), (34, .slice z.b 0 0), (36, .slice z.c 0 0), (40, .slice z.e 0 0)]) (fun _ => Hp I w []) (fun z => ?_) (fun h5_7_11 => ?_)
 ·
  skip
  refine AV.all [2, 9] (by kernel_rfl) (by decide) ?_
  refine ⟨⟨_, rfl, ?_⟩, ⟨⟨_, rfl, ?_⟩, trivial⟩⟩
  ·
   skip
   refine KV.heap (fun w h => h.nilOS (e := 24) (K := intK .u64)) ?_
   refine OV.append 0 Tryz.underlying85 I24 rfl rfl rfl rfl rfl rfl (fun w h => (RS.nil (K := intK .u64))) (by simp only [List.length_nil]; omega) (by simp only [List.length_nil]; omega) gno rfl (fun b4_2a b4_2c => ?_)
   refine AV.next (bl 15 3583) (by kernel_rfl) (fun _ h => h.sel [] rfl) ?_
   exact AV.to (h2_5_7_11 { (z : G5) with a := b4_2a, n := b4_2c }) ⟨rfl, rfl, rfl, rfl, rfl, rfl, rfl, rfl, rfl, rfl, rfl, rfl, rfl, rfl, rfl, rfl, trivial⟩ (fun _ h => h.sel [] rfl)
  ·
   skip
   refine OV.make (K := bolK) (0) (0) (false) Tryz.underlying202 I4 rfl rfl rfl rfl rfl (by omega) (by omega) (by omega) gno rfl (fun b4_9 => ?_)
   refine AV.next (bl 15 4091) (by kernel_rfl) (fun _ h => h.sel [] rfl) ?_
   exact AV.to (h5_7_9_11 { (z : G5) with d := b4_9 }) ⟨rfl, rfl, rfl, rfl, rfl, rfl, rfl, rfl, rfl, rfl, rfl, rfl, rfl, rfl, rfl, rfl, trivial⟩ (fun _ h => h.sel [] rfl)
 refine AV.cutAt (α := G5) (bl 15 3963) 5 (fun z => [(0, .slice none 0 0), (1, .slice none 0 0), (2, .slice none 0 0), (3, .pointer bp), (10, .int .i64 0), (29, .slice none 0 0), (30, .slice none 0 0), (32, .pointer bp), (33, .int .i64 0), (35, .int .i64 0), (37, .int .i64 0), (39, .int .i64 0), (34, .slice z.b 0 0), (38, .slice z.d 0 0), (40, .slice z.e 0 0)]) (fun _ => Hp I w []) (fun z => ?_) (fun h5_9_11 => ?_)
 ·
  skip
  refine AV.all [2, 7] (by kernel_rfl) (by decide) ?_
  refine ⟨⟨_, rfl, ?_⟩, ⟨⟨_, rfl, ?_⟩, trivial⟩⟩
  ·
   skip
   refine KV.heap (fun w h => h.nilOS (e := 24) (K := intK .u64)) ?_
   refine OV.append 0 Tryz.underlying85 I24 rfl rfl rfl rfl rfl rfl (fun w h => (RS.nil (K := intK .u64))) (by simp only [List.length_nil]; omega) (by simp only [List.length_nil]; omega) gno rfl (fun b4_2a b4_2c => ?_)
   refine AV.next (bl 15 3967) (by kernel_rfl) (fun _ h => h.sel [] rfl) ?_
   exact AV.to (h2_5_9_11 { (z : G5) with a := b4_2a, n := b4_2c }) ⟨rfl, rfl, rfl, rfl, rfl, rfl, rfl, rfl, rfl, rfl, rfl, rfl, rfl, rfl, rfl, rfl, trivial⟩ (fun _ h => h.sel [] rfl)
  ·
   skip
   refine OV.make (K := nslK) (0) (0) (()) Tryz.underlying282 I176 rfl rfl rfl rfl rfl (by omega) (by omega) (by omega) gno rfl (fun b4_7 => ?_)
   refine AV.next (bl 15 4091) (by kernel_rfl) (fun _ h => h.sel [] rfl) ?_
   exact AV.to (h5_7_9_11 { (z : G5) with c := b4_7 }) ⟨rfl, rfl, rfl, rfl, rfl, rfl, rfl, rfl, rfl, rfl, rfl, rfl, rfl, rfl, rfl, rfl, trivial⟩ (fun _ h => h.sel [] rfl)
 refine AV.cutAt (α := G5) (bl 15 4059) 5 (fun z => [(0, .slice none 0 0), (1, .slice none 0 0), (2, .slice none 0 0), (3, .pointer bp), (10, .int .i64 0), (29, .slice none 0 0), (30, .slice none 0 0), (32, .pointer bp), (33, .int .i64 0), (35, .int .i64 0), (37, .int .i64 0), (39, .int .i64 0), (36, .slice z.c 0 0), (38, .slice z.d 0 0), (40, .slice z.e 0 0)]) (fun _ => Hp I w []) (fun z => ?_) (fun h7_9_11 => ?_)
 ·
  skip
  refine AV.all [2, 5] (by kernel_rfl) (by decide) ?_
  refine ⟨⟨_, rfl, ?_⟩, ⟨⟨_, rfl, ?_⟩, trivial⟩⟩
  ·
   skip
   refine KV.heap (fun w h => h.nilOS (e := 24) (K := intK .u64)) ?_
   refine OV.append 0 Tryz.underlying85 I24 rfl rfl rfl rfl rfl rfl (fun w h => (RS.nil (K := intK .u64))) (by simp only [List.length_nil]; omega) (by simp only [List.length_nil]; omega) gno rfl (fun b4_2a b4_2c => ?_)
   refine AV.next (bl 15 4063) (by kernel_rfl) (fun _ h => h.sel [] rfl) ?_
   exact AV.to (h2_7_9_11 { (z : G5) with a := b4_2a, n := b4_2c }) ⟨rfl, rfl, rfl, rfl, rfl, rfl, rfl, rfl, rfl, rfl, rfl, rfl, rfl, rfl, rfl, rfl, trivial⟩ (fun _ h => h.sel [] rfl)
  ·
   skip
   refine OV.make (K := bolK) (0) (0) (false) Tryz.underlying202 I4 rfl rfl rfl rfl rfl (by omega) (by omega) (by omega) gno rfl (fun b4_5 => ?_)
   refine AV.next (bl 15 4091) (by kernel_rfl) (fun _ h => h.sel [] rfl) ?_
   exact AV.to (h5_7_9_11 { (z : G5) with b := b4_5 }) ⟨rfl, rfl, rfl, rfl, rfl, rfl, rfl, rfl, rfl, rfl, rfl, rfl, rfl, rfl, rfl, rfl, trivial⟩ (fun _ h => h.sel [] rfl)
 refine AV.cutAt (α := G5) (bl 15 1407) 6 (fun z => [(0, .slice none 0 0), (1, .slice none 0 0), (2, .slice none 0 0), (3, .pointer bp), (10, .int .i64 0), (29, .slice none 0 0), (30, .slice none 0 0), (32, .pointer bp), (33, .int .i64 0), (35, .int .i64 0), (37, .int .i64 0), (39, .int .i64 0), (31, .slice z.a 0 z.n), (34, .slice z.b 0 0)]) (fun _ => Hp I w []) (fun z => ?_) (fun h2_5 => ?_)
 ·
  skip
  refine AV.all [7, 9, 11] (by kernel_rfl) (by decide) ?_
  refine ⟨⟨_, rfl, ?_⟩, ⟨⟨_, rfl, ?_⟩, ⟨⟨_, rfl, ?_⟩, trivial⟩⟩⟩
  ·
   skip
   refine OV.make (K := nslK) (0) (0) (()) Tryz.underlying282 I176 rfl rfl rfl rfl rfl (by omega) (by omega) (by omega) gno rfl (fun b4_7 => ?_)
   refine AV.next (bl 15 1535) (by kernel_rfl) (fun _ h => h.sel [] rfl) ?_
   exact AV.to (h2_5_7 { (z : G5) with c := b4_7 }) ⟨rfl, rfl, rfl, rfl, rfl, rfl, rfl, rfl, rfl, rfl, rfl, rfl, rfl, rfl, rfl, trivial⟩ (fun _ h => h.sel [] rfl)
  ·
   skip
   refine OV.make (K := bolK) (0) (0) (false) Tryz.underlying202 I4 rfl rfl rfl rfl rfl (by omega) (by omega) (by omega) gno rfl (fun b4_9 => ?_)
   refine AV.next (bl 15 1919) (by kernel_rfl) (fun _ h => h.sel [] rfl) ?_
   exact AV.to (h2_5_9 { (z : G5) with d := b4_9 }) ⟨rfl, rfl, rfl, rfl, rfl, rfl, rfl, rfl, rfl, rfl, rfl, rfl, rfl, rfl, rfl, trivial⟩ (fun _ h => h.sel [] rfl)
  ·
   skip
   refine OV.make (K := (intK .i64)) (0) (0) (0) Tryz.underlying48 I3 rfl rfl rfl rfl rfl (by omega) (by omega) (by omega) gno rfl (fun b4_11 => ?_)
   refine AV.next (bl 15 3455) (by kernel_rfl) (fun _ h => h.sel [] rfl) ?_
   exact AV.to (h2_5_11 { (z : G5) with e := b4_11 }) ⟨rfl, rfl, rfl, rfl, rfl, rfl, rfl, rfl, rfl, rfl, rfl, rfl, rfl, rfl, rfl, trivial⟩ (fun _ h => h.sel [] rfl)
 refine AV.cutAt (α := G5) (bl 15 1503) 6 (fun z => [(0, .slice none 0 0), (1, .slice none 0 0), (2, .slice none 0 0), (3, .pointer bp), (10, .int .i64 0), (29, .slice none 0 0), (30, .slice none 0 0), (32, .pointer bp), (33, .int .i64 0), (35, .int .i64 0), (37, .int .i64 0), (39, .int .i64 0), (31, .slice z.a 0 z.n), (36, .slice z.c 0 0)]) (fun _ => Hp I w []) (fun z => ?_) (fun h2_7 => ?_)
 ·
  skip
  refine AV.all [5, 9, 11] (by kernel_rfl) (by decide) ?_
  refine ⟨⟨_, rfl, ?_⟩, ⟨⟨_, rfl, ?_⟩, ⟨⟨_, rfl, ?_⟩, trivial⟩⟩⟩
  ·
   skip
   refine OV.make (K := bolK) (0) (0) (false) Tryz.underlying202 I4 rfl rfl rfl rfl rfl (by omega) (by omega) (by omega) gno rfl (fun b4_5 => ?_)
   refine AV.next (bl 15 1535) (by kernel_rfl) (fun _ h => h.sel [] rfl) ?_
   exact AV.to (h2_5_7 { (z : G5) with b := b4_5 }) ⟨rfl, rfl, rfl, rfl, rfl, rfl, rfl, rfl, rfl, rfl, rfl, rfl, rfl, rfl, rfl, trivial⟩ (fun _ h => h.sel [] rfl)
  ·
   skip
   refine OV.make (K := bolK) (0) (0) (false) Tryz.underlying202 I4 rfl rfl rfl rfl rfl (by omega) (by omega) (by omega) gno rfl (fun b4_9 => ?_)
   refine AV.next (bl 15 2015) (by kernel_rfl) (fun _ h => h.sel [] rfl) ?_
   exact AV.to (h2_7_9 { (z : G5) with d := b4_9 }) ⟨rfl, rfl, rfl, rfl, rfl, rfl, rfl, rfl, rfl, rfl, rfl, rfl, rfl, rfl, rfl, trivial⟩ (fun _ h => h.sel [] rfl)
  ·
   skip
   refine OV.make (K := (intK .i64)) (0) (0) (0) Tryz.underlying48 I3 rfl rfl rfl rfl rfl (by omega) (by omega) (by omega) gno rfl (fun b4_11 => ?_)
   refine AV.next (bl 15 3551) (by kernel_rfl) (fun _ h => h.sel [] rfl) ?_
   exact AV.to (h2_7_11 { (z : G5) with e := b4_11 }) ⟨rfl, rfl, rfl, rfl, rfl, rfl, rfl, rfl, rfl, rfl, rfl, rfl, rfl, rfl, rfl, trivial⟩ (fun _ h => h.sel [] rfl)
 refine AV.cutAt (α := G5) (bl 15 1887) 6 (fun z => [(0, .slice none 0 0), (1, .slice none 0 0), (2, .slice none 0 0), (3, .pointer bp), (10, .int .i64 0), (29, .slice none 0 0), (30, .slice none 0 0), (32, .pointer bp), (33, .int .i64 0), (35, .int .i64 0), (37, .int .i64 0), (39, .int .i64 0), (31, .slice z.a 0 z.n), (38, .slice z.d 0 0)]) (fun _ => Hp I w []) (fun z => ?_) (fun h2_9 => ?_)
 ·
  skip
  refine AV.all [5, 7, 11] (by kernel_rfl) (by decide) ?_
  refine ⟨⟨_, rfl, ?_⟩, ⟨⟨_, rfl, ?_⟩, ⟨⟨_, rfl, ?_⟩, trivial⟩⟩⟩
  ·
   skip
   refine OV.make (K := bolK) (0) (0) (false) Tryz.underlying202 I4 rfl rfl rfl rfl rfl (by omega) (by omega) (by omega) gno rfl (fun b4_5 => ?_)
   refine AV.next (bl 15 1919) (by kernel_rfl) (fun _ h => h.sel [] rfl) ?_
   exact AV.to (h2_5_9 { (z : G5) with b := b4_5 }) ⟨rfl, rfl, rfl, rfl, rfl, rfl, rfl, rfl, rfl, rfl, rfl, rfl, rfl, rfl, rfl, trivial⟩ (fun _ h => h.sel [] rfl)
  ·
   skip
   refine OV.make (K := nslK) (0) (0) (()) Tryz.underlying282 I176 rfl rfl rfl rfl rfl (by omega) (by omega) (by omega) gno rfl (fun b4_7 => ?_)
   refine AV.next (bl 15 2015) (by kernel_rfl) (fun _ h => h.sel [] rfl) ?_
   exact AV.to (h2_7_9 { (z : G5) with c := b4_7 }) ⟨rfl, rfl, rfl, rfl, rfl, rfl, rfl, rfl, rfl, rfl, rfl, rfl, rfl, rfl, rfl, trivial⟩ (fun _ h => h.sel [] rfl)
  ·
   skip
   refine OV.make (K := (intK .i64)) (0) (0) (0) Tryz.underlying48 I3 rfl rfl rfl rfl rfl (by omega) (by omega) (by omega) gno rfl (fun b4_11 => ?_)
   refine AV.next (bl 15 3935) (by kernel_rfl) (fun _ h => h.sel [] rfl) ?_
   exact AV.to (h2_9_11 { (z : G5) with e := b4_11 }) ⟨rfl, rfl, rfl, rfl, rfl, rfl, rfl, rfl, rfl, rfl, rfl, rfl, rfl, rfl, rfl, trivial⟩ (fun _ h => h.sel [] rfl)
 refine AV.cutAt (α := G5) (bl 15 3423) 6 (fun z => [(0, .slice none 0 0), (1, .slice none 0 0), (2, .slice none 0 0), (3, .pointer bp), (10, .int .i64 0), (29, .slice none 0 0), (30, .slice none 0 0), (32, .pointer bp), (33, .int .i64 0), (35, .int .i64 0), (37, .int .i64 0), (39, .int .i64 0), (31, .slice z.a 0 z.n), (40, .slice z.e 0 0)]) (fun _ => Hp I w []) (fun z => ?_) (fun h2_11 => ?_)
 ·
  skip
  refine AV.all [5, 7, 9] (by kernel_rfl) (by decide) ?_
  refine ⟨⟨_, rfl, ?_⟩, ⟨⟨_, rfl, ?_⟩, ⟨⟨_, rfl, ?_⟩, trivial⟩⟩⟩
  ·
   skip
   refine OV.make (K := bolK) (0) (0) (false) Tryz.underlying202 I4 rfl rfl rfl rfl rfl (by omega) (by omega) (by omega) gno rfl (fun b4_5 => ?_)
   refine AV.next (bl 15 3455) (by kernel_rfl) (fun _ h => h.sel [] rfl) ?_
   exact AV.to (h2_5_11 { (z : G5) with b := b4_5 }) ⟨rfl, rfl, rfl, rfl, rfl, rfl, rfl, rfl, rfl, rfl, rfl, rfl, rfl, rfl, rfl, trivial⟩ (fun _ h => h.sel [] rfl)
  ·
   skip
   refine OV.make (K := nslK) (0) (0) (()) Tryz.underlying282 I176 rfl rfl rfl rfl rfl (by omega) (by omega) (by omega) gno rfl (fun b4_7 => ?_)
   refine AV.next (bl 15 3551) (by kernel_rfl) (fun _ h => h.sel [] rfl) ?_
   exact AV.to (h2_7_11 { (z : G5) with c := b4_7 }) ⟨rfl, rfl, rfl, rfl, rfl, rfl, rfl, rfl, rfl, rfl, rfl, rfl, rfl, rfl, rfl, trivial⟩ (fun _ h => h.sel [] rfl)
  ·
   skip
   refine OV.make (K := bolK) (0) (0) (false) Tryz.underlying202 I4 rfl rfl rfl rfl rfl (by omega) (by omega) (by omega) gno rfl (fun b4_9 => ?_)
   refine AV.next (bl 15 3935) (by kernel_rfl) (fun _ h => h.sel [] rfl) ?_
   exact AV.to (h2_9_11 { (z : G5) with d := b4_9 }) ⟨rfl, rfl, rfl, rfl, rfl, rfl, rfl, rfl, rfl, rfl, rfl, rfl, rfl, rfl, rfl, trivial⟩ (fun _ h => h.sel [] rfl)
 refine AV.cutAt (α := G5) (bl 15 1531) 6 (fun z => [(0, .slice none 0 0), (1, .slice none 0 0), (2, .slice none 0 0), (3, .pointer bp), (10, .int .i64 0), (29, .slice none 0 0), (30, .slice none 0 0), (32, .pointer bp), (33, .int .i64 0), (35, .int .i64 0), (37, .int .i64 0), (39, .int .i64 0), (34, .slice z.b 0 0), (36, .slice z.c 0 0)]) (fun _ => Hp I w []) (fun z => ?_) (fun h5_7 => ?_)
 ·
  skip
  refine AV.all [2, 9, 11] (by kernel_rfl) (by decide) ?_
  refine ⟨⟨_, rfl, ?_⟩, ⟨⟨_, rfl, ?_⟩, ⟨⟨_, rfl, ?_⟩, trivial⟩⟩⟩
  ·
   skip
   refine KV.heap (fun w h => h.nilOS (e := 24) (K := intK .u64)) ?_
   refine OV.append 0 Tryz.underlying85 I24 rfl rfl rfl rfl rfl rfl (fun w h => (RS.nil (K := intK .u64))) (by simp only [List.length_nil]; omega) (by simp only [List.length_nil]; omega) gno rfl (fun b4_2a b4_2c => ?_)
   refine AV.next (bl 15 1535) (by kernel_rfl) (fun _ h => h.sel [] rfl) ?_
   exact AV.to (h2_5_7 { (z : G5) with a := b4_2a, n := b4_2c }) ⟨rfl, rfl, rfl, rfl, rfl, rfl, rfl, rfl, rfl, rfl, rfl, rfl, rfl, rfl, rfl, trivial⟩ (fun _ h => h.sel [] rfl)
  ·
   skip
   refine OV.make (K := bolK) (0) (0) (false) Tryz.underlying202 I4 rfl rfl rfl rfl rfl (by omega) (by omega) (by omega) gno rfl (fun b4_9 => ?_)
   refine AV.next (bl 15 2043) (by kernel_rfl) (fun _ h => h.sel [] rfl) ?_
   exact AV.to (h5_7_9 { (z : G5) with d := b4_9 }) ⟨rfl, rfl, rfl, rfl, rfl, rfl, rfl, rfl, rfl, rfl, rfl, rfl, rfl, rfl, rfl, trivial⟩ (fun _ h => h.sel [] rfl)
  ·
   skip
   refine OV.make (K := (intK .i64)) (0) (0) (0) Tryz.underlying48 I3 rfl rfl rfl rfl rfl (by omega) (by omega) (by omega) gno rfl (fun b4_11 => ?_)
   refine AV.next (bl 15 3579) (by kernel_rfl) (fun _ h => h.sel [] rfl) ?_
   exact AV.to (h5_7_11 { (z : G5) with e := b4_11 }) ⟨rfl, rfl, rfl, rfl, rfl, rfl, rfl, rfl, rfl, rfl, rfl, rfl, rfl, rfl, rfl, trivial⟩ (fun _ h => h.sel [] rfl)
 refine AV.cutAt (α := G5) (bl 15 1915) 6 (fun z => [(0, .slice none 0 0), (1, .slice none 0 0), (2, .slice none 0 0), (3, .pointer bp), (10, .int .i64 0), (29, .slice none 0 0), (30, .slice none 0 0), (32, .pointer bp), (33, .int .i64 0), (35, .int .i64 0), (37, .int .i64 0), (39, .int .i64 0), (34, .slice z.b 0 0), (38, .slice z.d 0 0)]) (fun _ => Hp I w []) (fun z => ?_) (fun h5_9 => ?_)
 ·
  skip
  refine AV.all [2, 7, 11] (by kernel_rfl) (by decide) ?_
  refine ⟨⟨_, rfl, ?_⟩, ⟨⟨_, rfl, ?_⟩, ⟨⟨_, rfl, ?_⟩, trivial⟩⟩⟩
  ·
   skip
   refine KV.heap (fun w h => h.nilOS (e := 24) (K := intK .u64)) ?_
   refine OV.append 0 Tryz.underlying85 I24 rfl rfl rfl rfl rfl rfl (fun w h => (RS.nil (K := intK .u64))) (by simp only [List.length_nil]; omega) (by simp only [List.length_nil]; omega) gno rfl (fun b4_2a b4_2c => ?_)
   refine AV.next (bl 15 1919) (by kernel_rfl) (fun _ h => h.sel [] rfl) ?_
   exact AV.to (h2_5_9 { (z : G5) with a := b4_2a, n := b4_2c }) ⟨rfl, rfl, rfl, rfl, rfl, rfl, rfl, rfl, rfl, rfl, rfl, rfl, rfl, rfl, rfl, trivial⟩ (fun _ h => h.sel [] rfl)
  ·
   skip
   refine OV.make (K := nslK) (0) (0) (()) Tryz.underlying282 I176 rfl rfl rfl rfl rfl (by omega) (by omega) (by omega) gno rfl (fun b4_7 => ?_)
   refine AV.next (bl 15 2043) (by kernel_rfl) (fun _ h => h.sel [] rfl) ?_
   exact AV.to (h5_7_9 { (z : G5) with c := b4_7 }) ⟨rfl, rfl, rfl, rfl, rfl, rfl, rfl, rfl, rfl, rfl, rfl, rfl, rfl, rfl, rfl, trivial⟩ (fun _ h => h.sel [] rfl)
  ·
   skip
   refine OV.make (K := (intK .i64)) (0) (0) (0) Tryz.underlying48 I3 rfl rfl rfl rfl rfl (by omega) (by omega) (by omega) gno rfl (fun b4_11 => ?_)
   refine AV.next (bl 15 3963) (by kernel_rfl) (fun _ h => h.sel [] rfl) ?_
   exact AV.to (h5_9_11 { (z : G5) with e := b4_11 }) ⟨rfl, rfl, rfl, rfl, rfl, rfl, rfl, rfl, rfl, rfl, rfl, rfl, rfl, rfl, rfl, trivial⟩ (fun _ h => h.sel [] rfl)
 refine AV.cutAt (α := G5) (bl 15 3451) 6 (fun z => [(0, .slice none 0 0), (1, .slice none 0 0), (2, .slice none 0 0), (3, .pointer bp), (10, .int .i64 0), (29, .slice none 0 0), (30, .slice none 0 0), (32, .pointer bp), (33, .int .i64 0), (35, .int .i64 0), (37, .int .i64 0), (39, .int .i64 0), (34, .slice z.b 0 0), (40, .slice z.e 0 0)]) (fun _ => Hp I w []) (fun z => ?_) (fun h5_11 => ?_)
 ·
  skip
  refine AV.all [2, 7, 9] (by kernel_rfl) (by decide) ?_
  refine ⟨⟨_, rfl, ?_⟩, ⟨⟨_, rfl, ?_⟩, ⟨⟨_, rfl, ?_⟩, trivial⟩⟩⟩
  ·
   skip
   refine KV.heap (fun w h => h.nilOS (e := 24) (K := intK .u64)) ?_
   refine OV.append 0 Tryz.underlying85 I24 rfl rfl rfl rfl rfl rfl (fun w h => (RS.nil (K := intK .u64))) (by simp only [List.length_nil]; omega) (by simp only [List.length_nil]; omega) gno rfl (fun b4_2a b4_2c => ?_)
   refine AV.next (bl 15 3455) (by kernel_rfl) (fun _ h => h.sel [] rfl) ?_
   exact AV.to (h2_5_11 { (z : G5) with a := b4_2a, n := b4_2c }) ⟨rfl, rfl, rfl, rfl, rfl, rfl, rfl, rfl, rfl, rfl, rfl, rfl, rfl, rfl, rfl, trivial⟩ (fun _ h => h.sel [] rfl)
  ·
   skip
   refine OV.make (K := nslK) (0) (0) (()) Tryz.underlying282 I176 rfl rfl rfl rfl rfl (by omega) (by omega) (by omega) gno rfl (fun b4_7 => ?_)
   refine AV.next (bl 15 3579) (by kernel_rfl) (fun _ h => h.sel [] rfl) ?_
   exact AV.to (h5_7_11 { (z : G5) with c := b4_7 }) ⟨rfl, rfl, rfl, rfl, rfl, rfl, rfl, rfl, rfl, rfl, rfl, rfl, rfl, rfl, rfl, trivial⟩ (fun _ h => h.sel [] rfl)
  ·
   skip
   refine OV.make (K := bolK) (0) (0) (false) Tryz.underlying202 I4 rfl rfl rfl rfl rfl (by omega) (by omega) (by omega) gno rfl (fun b4_9 => ?_)
   refine AV.next (bl 15 3963) (by kernel_rfl) (fun _ h => h.sel [] rfl) ?_
   exact AV.to (h5_9_11 { (z : G5) with d := b4_9 }) ⟨rfl, rfl, rfl, rfl, rfl, rfl, rfl, rfl, rfl, rfl, rfl, rfl, rfl, rfl, rfl, trivial⟩ (fun _ h => h.sel [] rfl)
 refine AV.cutAt (α := G5) (bl 15 2011) 6 (fun z => [(0, .slice none 0 0), (1, .slice none 0 0), (2, .slice none 0 0), (3, .pointer bp), (10, .int .i64 0), (29, .slice none 0 0), (30, .slice none 0 0), (32, .pointer bp), (33, .int .i64 0), (35, .int .i64 0), (37, .int .i64 0), (39, .int .i64 0), (36, .slice z.c 0 0), (38, .slice z.d 0 0)]) (fun _ => Hp I w []) (fun z => ?_) (fun h7_9 => ?_)
 ·
  skip
  refine AV.all [2, 5, 11] (by kernel_rfl) (by decide) ?_
  refine ⟨⟨_, rfl, ?_⟩, ⟨⟨_, rfl, ?_⟩, ⟨⟨_, rfl, ?_⟩, trivial⟩⟩⟩
  ·
   skip
   refine KV.heap (fun w h => h.nilOS (e := 24) (K := intK .u64)) ?_
   refine OV.append 0 Tryz.underlying85 I24 rfl rfl rfl rfl rfl rfl (fun w h => (RS.nil (K := intK .u64))) (by simp only [List.length_nil]; omega) (by simp only [List.length_nil]; omega) gno rfl (fun b4_2a b4_2c => ?_)
   refine AV.next (bl 15 2015) (by kernel_rfl) (fun _ h => h.sel [] rfl) ?_
   exact AV.to (h2_7_9 { (z : G5) with a := b4_2a, n := b4_2c }) ⟨rfl, rfl, rfl, rfl, rfl, rfl, rfl, rfl, rfl, rfl, rfl, rfl, rfl, rfl, rfl, trivial⟩ (fun _ h => h.sel [] rfl)
  ·
   skip
   refine OV.make (K := bolK) (0) (0) (false) Tryz.underlying202 I4 rfl rfl rfl rfl rfl (by omega) (by omega) (by omega) gno rfl (fun b4_5 => ?_)
   refine AV.next (bl 15 2043) (by kernel_rfl) (fun _ h => h.sel [] rfl) ?_
   exact AV.to (h5_7_9 { (z : G5) with b := b4_5 }) ⟨rfl, rfl, rfl, rfl, rfl, rfl, rfl, rfl, rfl, rfl, rfl, rfl, rfl, rfl, rfl, trivial⟩ (fun _ h => h.sel [] rfl)
  ·
   skip
   refine OV.make (K := (intK .i64)) (0) (0) (0) Tryz.underlying48 I3 rfl rfl rfl rfl rfl (by omega) (by omega) (by omega) gno rfl (fun b4_11 => ?_)
   refine AV.next (bl 15 4059) (by kernel_rfl) (fun _ h => h.sel [] rfl) ?_
   exact AV.to (h7_9_11 { (z : G5) with e := b4_11 }) ⟨rfl, rfl, rfl, rfl, rfl, rfl, rfl, rfl, rfl, rfl, rfl, rfl, rfl, rfl, rfl, trivial⟩ (fun _ h => h.sel [] rfl)
 refine AV.cutAt (α := G5) (bl 15 3547) 6 (fun z => [(0, .slice none 0 0), (1, .slice none 0 0), (2, .slice none 0 0), (3, .pointer bp), (10, .int .i64 0), (29, .slice none 0 0), (30, .slice none 0 0), (32, .pointer bp), (33, .int .i64 0), (35, .int .i64 0), (37, .int .i64 0), (39, .int .i64 0), (36, .slice z.c 0 0), (40, .slice z.e 0 0)]) (fun _ => Hp I w []) (fun z => ?_) (fun h7_11 => ?_)
 ·
  skip
  refine AV.all [2, 5, 9] (by kernel_rfl) (by decide) ?_
  refine ⟨⟨_, rfl, ?_⟩, ⟨⟨_, rfl, ?_⟩, ⟨⟨_, rfl, ?_⟩, trivial⟩⟩⟩
  ·
   skip
   refine KV.heap (fun w h => h.nilOS (e := 24) (K := intK .u64)) ?_
   refine OV.append 0 Tryz.underlying85 I24 rfl rfl rfl rfl rfl rfl (fun w h => (RS.nil (K := intK .u64))) (by simp only [List.length_nil]; omega) (by simp only [List.length_nil]; omega) gno rfl (fun b4_2a b4_2c => ?_)
   refine AV.next (bl 15 3551) (by kernel_rfl) (fun _ h => h.sel [] rfl) ?_
   exact AV.to (h2_7_11 { (z : G5) with a := b4_2a, n := b4_2c }) ⟨rfl, rfl, rfl, rfl, rfl, rfl, rfl, rfl, rfl, rfl, rfl, rfl, rfl, rfl, rfl, trivial⟩ (fun _ h => h.sel [] rfl)
  ·
   skip
   refine OV.make (K := bolK) (0) (0) (false) Tryz.underlying202 I4 rfl rfl rfl rfl rfl (by omega) (by omega) (by omega) gno rfl (fun b4_5 => ?_)
   refine AV.next (bl 15 3579) (by kernel_rfl) (fun _ h => h.sel [] rfl) ?_
   exact AV.to (h5_7_11 { (z : G5) with b := b4_5 }) ⟨rfl, rfl, rfl, rfl, rfl, rfl, rfl, rfl, rfl, rfl, rfl, rfl, rfl, rfl, rfl, trivial⟩ (fun _ h => h.sel [] rfl)
  ·
   skip
   refine OV.make (K := bolK) (0) (0) (false) Tryz.underlying202 I4 rfl rfl rfl rfl rfl (by omega) (by omega) (by omega) gno rfl (fun b4_9 => ?_)
   refine AV.next (bl 15 4059) (by kernel_rfl) (fun _ h => h.sel [] rfl) ?_
   exact AV.to (h7_9_11 { (z : G5) with d := b4_9 }) ⟨rfl, rfl, rfl, rfl, rfl, rfl, rfl, rfl, rfl, rfl, rfl, rfl, rfl, rfl, rfl, trivial⟩ (fun _ h => h.sel [] rfl)
 refine AV.cutAt (α := G5) (bl 15 3931) 6 (fun z => [(0, .slice none 0 0), (1, .slice none 0 0), (2, .slice none 0 0), (3, .pointer bp), (10, .int .i64 0), (29, .slice none 0 0), (30, .slice none 0 0), (32, .pointer bp), (33, .int .i64 0), (35, .int .i64 0), (37, .int .i64 0), (39, .int .i64 0), (38, .slice z.d 0 0), (40, .slice z.e 0 0)]) (fun _ => Hp I w []) (fun z => ?_) (fun h9_11 => ?_)
 ·
  skip
  refine AV.all [2, 5, 7] (by kernel_rfl) (by decide) ?_
  refine ⟨⟨_, rfl, ?_⟩, ⟨⟨_, rfl, ?_⟩, ⟨⟨_, rfl, ?_⟩, trivial⟩⟩⟩
  ·
   skip
   refine KV.heap (fun w h => h.nilOS (e := 24) (K := intK .u64)) ?_
   refine OV.append 0 Tryz.underlying85 I24 rfl rfl rfl rfl rfl rfl (fun w h => (RS.nil (K := intK .u64))) (by simp only [List.length_nil]; omega) (by simp only [List.length_nil]; omega) gno rfl (fun b4_2a b4_2c => ?_)
   refine AV.next (bl 15 3935) (by kernel_rfl) (fun _ h => h.sel [] rfl) ?_
   exact AV.to (h2_9_11 { (z : G5) with a := b4_2a, n := b4_2c }) ⟨rfl, rfl, rfl, rfl, rfl, rfl, rfl, rfl, rfl, rfl, rfl, rfl, rfl, rfl, rfl, trivial⟩ (fun _ h => h.sel [] rfl)
  ·
   skip
   refine OV.make (K := bolK) (0) (0) (false) Tryz.underlying202 I4 rfl rfl rfl rfl rfl (by omega) (by omega) (by omega) gno rfl (fun b4_5 => ?_)
   refine AV.next (bl 15 3963) (by kernel_rfl) (fun _ h => h.sel [] rfl) ?_
   exact AV.to (h5_9_11 { (z : G5) with b := b4_5 }) ⟨rfl, rfl, rfl, rfl, rfl, rfl, rfl, rfl, rfl, rfl, rfl, rfl, rfl, rfl, rfl, trivial⟩ (fun _ h => h.sel [] rfl)
  ·
   skip
   refine OV.make (K := nslK) (0) (0) (()) Tryz.underlying282 I176 rfl rfl rfl rfl rfl (by omega) (by omega) (by omega) gno rfl (fun b4_7 => ?_)
   refine AV.next (bl 15 4059) (by kernel_rfl) (fun _ h => h.sel [] rfl) ?_
   exact AV.to (h7_9_11 { (z : G5) with c := b4_7 }) ⟨rfl, rfl, rfl, rfl, rfl, rfl, rfl, rfl, rfl, rfl, rfl, rfl, rfl, rfl, rfl, trivial⟩ (fun _ h => h.sel [] rfl)
 refine AV.cutAt (α := G5) (bl 15 1375) 7 (fun z => [(0, .slice none 0 0), (1, .slice none 0 0), (2, .slice none 0 0), (3, .pointer bp), (10, .int .i64 0), (29, .slice none 0 0), (30, .slice none 0 0), (32, .pointer bp), (33, .int .i64 0), (35, .int .i64 0), (37, .int .i64 0), (39, .int .i64 0), (31, .slice z.a 0 z.n)]) (fun _ => Hp I w []) (fun z => ?_) (fun h2 => ?_)
 ·
  skip
  refine AV.all [5, 7, 9, 11] (by kernel_rfl) (by decide) ?_
  refine ⟨⟨_, rfl, ?_⟩, ⟨⟨_, rfl, ?_⟩, ⟨⟨_, rfl, ?_⟩, ⟨⟨_, rfl, ?_⟩, trivial⟩⟩⟩⟩
  ·
   skip
   refine OV.make (K := bolK) (0) (0) (false) Tryz.underlying202 I4 rfl rfl rfl rfl rfl (by omega) (by omega) (by omega) gno rfl (fun b4_5 => ?_)
   refine AV.next (bl 15 1407) (by kernel_rfl) (fun _ h => h.sel [] rfl) ?_
   exact AV.to (h2_5 { (z : G5) with b := b4_5 }) ⟨rfl, rfl, rfl, rfl, rfl, rfl, rfl, rfl, rfl, rfl, rfl, rfl, rfl, rfl, trivial⟩ (fun _ h => h.sel [] rfl)
  ·
   skip
   refine OV.make (K := nslK) (0) (0) (()) Tryz.underlying282 I176 rfl rfl rfl rfl rfl (by omega) (by omega) (by omega) gno rfl (fun b4_7 => ?_)
   refine AV.next (bl 15 1503) (by kernel_rfl) (fun _ h => h.sel [] rfl) ?_
   exact AV.to (h2_7 { (z : G5) with c := b4_7 }) ⟨rfl, rfl, rfl, rfl, rfl, rfl, rfl, rfl, rfl, rfl, rfl, rfl, rfl, rfl, trivial⟩ (fun _ h => h.sel [] rfl)
  ·
   skip
   refine OV.make (K := bolK) (0) (0) (false) Tryz.underlying202 I4 rfl rfl rfl rfl rfl (by omega) (by omega) (by omega) gno rfl (fun b4_9 => ?_)
   refine AV.next (bl 15 1887) (by kernel_rfl) (fun _ h => h.sel [] rfl) ?_
   exact AV.to (h2_9 { (z : G5) with d := b4_9 }) ⟨rfl, rfl, rfl, rfl, rfl, rfl, rfl, rfl, rfl, rfl, rfl, rfl, rfl, rfl, trivial⟩ (fun _ h => h.sel [] rfl)
  ·
   skip
   refine OV.make (K := (intK .i64)) (0) (0) (0) Tryz.underlying48 I3 rfl rfl rfl rfl rfl (by omega) (by omega) (by omega) gno rfl (fun b4_11 => ?_)
   refine AV.next (bl 15 3423) (by kernel_rfl) (fun _ h => h.sel [] rfl) ?_
   exact AV.to (h2_11 { (z : G5) with e := b4_11 }) ⟨rfl, rfl, rfl, rfl, rfl, rfl, rfl, rfl, rfl, rfl, rfl, rfl, rfl, rfl, trivial⟩ (fun _ h => h.sel [] rfl)
 refine AV.cutAt (α := G5) (bl 15 1403) 7 (fun z => [(0, .slice none 0 0), (1, .slice none 0 0), (2, .slice none 0 0), (3, .pointer bp), (10, .int .i64 0), (29, .slice none 0 0), (30, .slice none 0 0), (32, .pointer bp), (33, .int .i64 0), (35, .int .i64 0), (37, .int .i64 0), (39, .int .i64 0), (34, .slice z.b 0 0)]) (fun _ => Hp I w []) (fun z => ?_) (fun h5 => ?_)
 ·
  skip
  refine AV.all [2, 7, 9, 11] (by kernel_rfl) (by decide) ?_
  refine ⟨⟨_, rfl, ?_⟩, ⟨⟨_, rfl, ?_⟩, ⟨⟨_, rfl, ?_⟩, ⟨⟨_, rfl, ?_⟩, trivial⟩⟩⟩⟩
  ·
   skip
   refine KV.heap (fun w h => h.nilOS (e := 24) (K := intK .u64)) ?_
   refine OV.append 0 Tryz.underlying85 I24 rfl rfl rfl rfl rfl rfl (fun w h => (RS.nil (K := intK .u64))) (by simp only [List.length_nil]; omega) (by simp only [List.length_nil]; omega) gno rfl (fun b4_2a b4_2c => ?_)
   refine AV.next (bl 15 1407) (by kernel_rfl) (fun _ h => h.sel [] rfl) ?_
   exact AV.to (h2_5 { (z : G5) with a := b4_2a, n := b4_2c }) ⟨rfl, rfl, rfl, rfl, rfl, rfl, rfl, rfl, rfl, rfl, rfl, rfl, rfl, rfl, trivial⟩ (fun _ h => h.sel [] rfl)
  ·
   skip
   refine OV.make (K := nslK) (0) (0) (()) Tryz.underlying282 I176 rfl rfl rfl rfl rfl (by omega) (by omega) (by omega) gno rfl (fun b4_7 => ?_)
   refine AV.next (bl 15 1531) (by kernel_rfl) (fun _ h => h.sel [] rfl) ?_
   exact AV.to (h5_7 { (z : G5) with c := b4_7 }) ⟨rfl, rfl, rfl, rfl, rfl, rfl, rfl, rfl, rfl, rfl, rfl, rfl, rfl, rfl, trivial⟩ (fun _ h => h.sel [] rfl)
  ·
   skip
   refine OV.make (K := bolK) (0) (0) (false) Tryz.underlying202 I4 rfl rfl rfl rfl rfl (by omega) (by omega) (by omega) gno rfl (fun b4_9 => ?_)
   refine AV.next (bl 15 1915) (by kernel_rfl) (fun _ h => h.sel [] rfl) ?_
   exact AV.to (h5_9 { (z : G5) with d := b4_9 }) ⟨rfl, rfl, rfl, rfl, rfl, rfl, rfl, rfl, rfl, rfl, rfl, rfl, rfl, rfl, trivial⟩ (fun _ h => h.sel [] rfl)
  ·
   skip
   refine OV.make (K := (intK .i64)) (0) (0) (0) Tryz.underlying48 I3 rfl rfl rfl rfl rfl (by omega) (by omega) (by omega) gno rfl (fun b4_11 => ?_)
   refine AV.next (bl 15 3451) (by kernel_rfl) (fun _ h => h.sel [] rfl) ?_
   exact AV.to (h5_11 { (z : G5) with e := b4_11 }) ⟨rfl, rfl, rfl, rfl, rfl, rfl, rfl, rfl, rfl, rfl, rfl, rfl, rfl, rfl, trivial⟩ (fun _ h => h.sel [] rfl)
 refine AV.cutAt (α := G5) (bl 15 1499) 7 (fun z => [(0, .slice none 0 0), (1, .slice none 0 0), (2, .slice none 0 0), (3, .pointer bp), (10, .int .i64 0), (29, .slice none 0 0), (30, .slice none 0 0), (32, .pointer bp), (33, .int .i64 0), (35, .int .i64 0), (37, .int .i64 0), (39, .int .i64 0), (36, .slice z.c 0 0)]) (fun _ => Hp I w []) (fun z => ?_) (fun h7 => ?_)
 ·
  skip
  refine AV.all [2, 5, 9, 11] (by kernel_rfl) (by decide) ?_
  refine ⟨⟨_, rfl, ?_⟩, ⟨⟨_, rfl, ?_⟩, ⟨⟨_, rfl, ?_⟩, ⟨⟨_, rfl, ?_⟩, trivial⟩⟩⟩⟩
  ·
   skip
   refine KV.heap (fun w h => h.nilOS (e := 24) (K := intK .u64)) ?_
   refine OV.append 0 Tryz.underlying85 I24 rfl rfl rfl rfl rfl rfl (fun w h => (RS.nil (K := intK .u64))) (by simp only [List.length_nil]; omega) (by simp only [List.length_nil]; omega) gno rfl (fun b4_2a b4_2c => ?_)
   refine AV.next (bl 15 1503) (by kernel_rfl) (fun _ h => h.sel [] rfl) ?_
   exact AV.to (h2_7 { (z : G5) with a := b4_2a, n := b4_2c }) ⟨rfl, rfl, rfl, rfl, rfl, rfl, rfl, rfl, rfl, rfl, rfl, rfl, rfl, rfl, trivial⟩ (fun _ h => h.sel [] rfl)
  ·
   skip
   refine OV.make (K := bolK) (0) (0) (false) Tryz.underlying202 I4 rfl rfl rfl rfl rfl (by omega) (by omega) (by omega) gno rfl (fun b4_5 => ?_)
   refine AV.next (bl 15 1531) (by kernel_rfl) (fun _ h => h.sel [] rfl) ?_
   exact AV.to (h5_7 { (z : G5) with b := b4_5 }) ⟨rfl, rfl, rfl, rfl, rfl, rfl, rfl, rfl, rfl, rfl, rfl, rfl, rfl, rfl, trivial⟩ (fun _ h => h.sel [] rfl)
  ·
   skip
   refine OV.make (K := bolK) (0) (0) (false) Tryz.underlying202 I4 rfl rfl rfl rfl rfl (by omega) (by omega) (by omega) gno rfl (fun b4_9 => ?_)
   refine AV.next (bl 15 2011) (by kernel_rfl) (fun _ h => h.sel [] rfl) ?_
   exact AV.to (h7_9 { (z : G5) with d := b4_9 }) ⟨rfl, rfl, rfl, rfl, rfl, rfl, rfl, rfl, rfl, rfl, rfl, rfl, rfl, rfl, trivial⟩ (fun _ h => h.sel [] rfl)
  ·
   skip
   refine OV.make (K := (intK .i64)) (0) (0) (0) Tryz.underlying48 I3 rfl rfl rfl rfl rfl (by omega) (by omega) (by omega) gno rfl (fun b4_11 => ?_)
   refine AV.next (bl 15 3547) (by kernel_rfl) (fun _ h => h.sel [] rfl) ?_
   exact AV.to (h7_11 { (z : G5) with e := b4_11 }) ⟨rfl, rfl, rfl, rfl, rfl, rfl, rfl, rfl, rfl, rfl, rfl, rfl, rfl, rfl, trivial⟩ (fun _ h => h.sel [] rfl)
 refine AV.cutAt (α := G5) (bl 15 1883) 7 (fun z => [(0, .slice none 0 0), (1, .slice none 0 0), (2, .slice none 0 0), (3, .pointer bp), (10, .int .i64 0), (29, .slice none 0 0), (30, .slice none 0 0), (32, .pointer bp), (33, .int .i64 0), (35, .int .i64 0), (37, .int .i64 0), (39, .int .i64 0), (38, .slice z.d 0 0)]) (fun _ => Hp I w []) (fun z => ?_) (fun h9 => ?_)
 ·
  skip
  refine AV.all [2, 5, 7, 11] (by kernel_rfl) (by decide) ?_
  refine ⟨⟨_, rfl, ?_⟩, ⟨⟨_, rfl, ?_⟩, ⟨⟨_, rfl, ?_⟩, ⟨⟨_, rfl, ?_⟩, trivial⟩⟩⟩⟩
  ·
   skip
   refine KV.heap (fun w h => h.nilOS (e := 24) (K := intK .u64)) ?_
   refine OV.append 0 Tryz.underlying85 I24 rfl rfl rfl rfl rfl rfl (fun w h => (RS.nil (K := intK .u64))) (by simp only [List.length_nil]; omega) (by simp only [List.length_nil]; omega) gno rfl (fun b4_2a b4_2c => ?_)
   refine AV.next (bl 15 1887) (by kernel_rfl) (fun _ h => h.sel [] rfl) ?_
   exact AV.to (h2_9 { (z : G5) with a := b4_2a, n := b4_2c }) ⟨rfl, rfl, rfl, rfl, rfl, rfl, rfl, rfl, rfl, rfl, rfl, rfl, rfl, rfl, trivial⟩ (fun _ h => h.sel [] rfl)
  ·
   skip
   refine OV.make (K := bolK) (0) (0) (false) Tryz.underlying202 I4 rfl rfl rfl rfl rfl (by omega) (by omega) (by omega) gno rfl (fun b4_5 => ?_)
   refine AV.next (bl 15 1915) (by kernel_rfl) (fun _ h => h.sel [] rfl) ?_
   exact AV.to (h5_9 { (z : G5) with b := b4_5 }) ⟨rfl, rfl, rfl, rfl, rfl, rfl, rfl, rfl, rfl, rfl, rfl, rfl, rfl, rfl, trivial⟩ (fun _ h => h.sel [] rfl)
  ·
   skip
   refine OV.make (K := nslK) (0) (0) (()) Tryz.underlying282 I176 rfl rfl rfl rfl rfl (by omega) (by omega) (by omega) gno rfl (fun b4_7 => ?_)
   refine AV.next (bl 15 2011) (by kernel_rfl) (fun _ h => h.sel [] rfl) ?_
   exact AV.to (h7_9 { (z : G5) with c := b4_7 }) ⟨rfl, rfl, rfl, rfl, rfl, rfl, rfl, rfl, rfl, rfl, rfl, rfl, rfl, rfl, trivial⟩ (fun _ h => h.sel [] rfl)
  ·
   skip
   refine OV.make (K := (intK .i64)) (0) (0) (0) Tryz.underlying48 I3 rfl rfl rfl rfl rfl (by omega) (by omega) (by omega) gno rfl (fun b4_11 => ?_)
   refine AV.next (bl 15 3931) (by kernel_rfl) (fun _ h => h.sel [] rfl) ?_
   exact AV.to (h9_11 { (z : G5) with e := b4_11 }) ⟨rfl, rfl, rfl, rfl, rfl, rfl, rfl, rfl, rfl, rfl, rfl, rfl, rfl, rfl, trivial⟩ (fun _ h => h.sel [] rfl)
 refine AV.cutAt (α := G5) (bl 15 3419) 7 (fun z => [(0, .slice none 0 0), (1, .slice none 0 0), (2, .slice none 0 0), (3, .pointer bp), (10, .int .i64 0), (29, .slice none 0 0), (30, .slice none 0 0), (32, .pointer bp), (33, .int .i64 0), (35, .int .i64 0), (37, .int .i64 0), (39, .int .i64 0), (40, .slice z.e 0 0)]) (fun _ => Hp I w []) (fun z => ?_) (fun h11 => ?_)
 ·
  skip
  refine AV.all [2, 5, 7, 9] (by kernel_rfl) (by decide) ?_
  refine ⟨⟨_, rfl, ?_⟩, ⟨⟨_, rfl, ?_⟩, ⟨⟨_, rfl, ?_⟩, ⟨⟨_, rfl, ?_⟩, trivial⟩⟩⟩⟩
  ·
   skip
   refine KV.heap (fun w h => h.nilOS (e := 24) (K := intK .u64)) ?_
   refine OV.append 0 Tryz.underlying85 I24 rfl rfl rfl rfl rfl rfl (fun w h => (RS.nil (K := intK .u64))) (by simp only [List.length_nil]; omega) (by simp only [List.length_nil]; omega) gno rfl (fun b4_2a b4_2c => ?_)
   refine AV.next (bl 15 3423) (by kernel_rfl) (fun _ h => h.sel [] rfl) ?_
   exact AV.to (h2_11 { (z : G5) with a := b4_2a, n := b4_2c }) ⟨rfl, rfl, rfl, rfl, rfl, rfl, rfl, rfl, rfl, rfl, rfl, rfl, rfl, rfl, trivial⟩ (fun _ h => h.sel [] rfl)
  ·
   skip
   refine OV.make (K := bolK) (0) (0) (false) Tryz.underlying202 I4 rfl rfl rfl rfl rfl (by omega) (by omega) (by omega) gno rfl (fun b4_5 => ?_)
   refine AV.next (bl 15 3451) (by kernel_rfl) (fun _ h => h.sel [] rfl) ?_
   exact AV.to (h5_11 { (z : G5) with b := b4_5 }) ⟨rfl, rfl, rfl, rfl, rfl, rfl, rfl, rfl, rfl, rfl, rfl, rfl, rfl, rfl, trivial⟩ (fun _ h => h.sel [] rfl)
  ·
   skip
   refine OV.make (K := nslK) (0) (0) (()) Tryz.underlying282 I176 rfl rfl rfl rfl rfl (by omega) (by omega) (by omega) gno rfl (fun b4_7 => ?_)
   refine AV.next (bl 15 3547) (by kernel_rfl) (fun _ h => h.sel [] rfl) ?_
   exact AV.to (h7_11 { (z : G5) with c := b4_7 }) ⟨rfl, rfl, rfl, rfl, rfl, rfl, rfl, rfl, rfl, rfl, rfl, rfl, rfl, rfl, trivial⟩ (fun _ h => h.sel [] rfl)
  ·
   skip
   refine OV.make (K := bolK) (0) (0) (false) Tryz.underlying202 I4 rfl rfl rfl rfl rfl (by omega) (by omega) (by omega) gno rfl (fun b4_9 => ?_)
   refine AV.next (bl 15 3931) (by kernel_rfl) (fun _ h => h.sel [] rfl) ?_
   exact AV.to (h9_11 { (z : G5) with d := b4_9 }) ⟨rfl, rfl, rfl, rfl, rfl, rfl, rfl, rfl, rfl, rfl, rfl, rfl, rfl, rfl, trivial⟩ (fun _ h => h.sel [] rfl)
 refine AV.u 0 (bl 15 1) rfl gno (Step.move rfl) rfl (fun _ h => h.sel [] rfl) ?_
 refine AV.u 1 (bl 15 3) rfl gno (Step.move rfl) rfl (fun _ h => h.sel [] rfl) ?_
 refine AV.u 3 (bl 15 11) rfl gno (Step.move rfl) rfl (fun _ h => h.sel [] rfl) ?_
 refine AV.u 4 (bl 15 27) rfl gno (Step.move rfl) rfl (fun _ h => h.sel [] rfl) ?_
 refine AV.u 6 (bl 15 91) rfl gno (Step.move rfl) rfl (fun _ h => h.sel [] rfl) ?_
 refine AV.u 8 (bl 15 347) rfl gno (Step.move rfl) rfl (fun _ h => h.sel [] rfl) ?_
 refine AV.u 10 (bl 15 1371) rfl gno (Step.move rfl) rfl (fun _ h => h.sel [] rfl) ?_
 refine AV.all [2, 5, 7, 9, 11] (by kernel_rfl) (by decide) ?_
 refine ⟨⟨_, rfl, ?_⟩, ⟨⟨_, rfl, ?_⟩, ⟨⟨_, rfl, ?_⟩, ⟨⟨_, rfl, ?_⟩, ⟨⟨_, rfl, ?_⟩, trivial⟩⟩⟩⟩⟩
 ·
  skip
  refine KV.heap (fun w h => h.nilOS (e := 24) (K := intK .u64)) ?_
  refine OV.append 0 Tryz.underlying85 I24 rfl rfl rfl rfl rfl rfl (fun w h => (RS.nil (K := intK .u64))) (by simp only [List.length_nil]; omega) (by simp only [List.length_nil]; omega) gno rfl (fun b4_2a b4_2c => ?_)
  refine AV.next (bl 15 1375) (by kernel_rfl) (fun _ h => h.sel [] rfl) ?_
  exact AV.to (h2 { (⟨none, none, none, none, none, 0⟩ : G5) with a := b4_2a, n := b4_2c }) ⟨rfl, rfl, rfl, rfl, rfl, rfl, rfl, rfl, rfl, rfl, rfl, rfl, rfl, trivial⟩ (fun _ h => h.sel [] rfl)
 ·
  skip
  refine OV.make (K := bolK) (0) (0) (false) Tryz.underlying202 I4 rfl rfl rfl rfl rfl (by omega) (by omega) (by omega) gno rfl (fun b4_5 => ?_)
  refine AV.next (bl 15 1403) (by kernel_rfl) (fun _ h => h.sel [] rfl) ?_
  exact AV.to (h5 { (⟨none, none, none, none, none, 0⟩ : G5) with b := b4_5 }) ⟨rfl, rfl, rfl, rfl, rfl, rfl, rfl, rfl, rfl, rfl, rfl, rfl, rfl, trivial⟩ (fun _ h => h.sel [] rfl)
 ·
  skip
  refine OV.make (K := nslK) (0) (0) (()) Tryz.underlying282 I176 rfl rfl rfl rfl rfl (by omega) (by omega) (by omega) gno rfl (fun b4_7 => ?_)
  refine AV.next (bl 15 1499) (by kernel_rfl) (fun _ h => h.sel [] rfl) ?_
  exact AV.to (h7 { (⟨none, none, none, none, none, 0⟩ : G5) with c := b4_7 }) ⟨rfl, rfl, rfl, rfl, rfl, rfl, rfl, rfl, rfl, rfl, rfl, rfl, rfl, trivial⟩ (fun _ h => h.sel [] rfl)
 ·
  skip
  refine OV.make (K := bolK) (0) (0) (false) Tryz.underlying202 I4 rfl rfl rfl rfl rfl (by omega) (by omega) (by omega) gno rfl (fun b4_9 => ?_)
  refine AV.next (bl 15 1883) (by kernel_rfl) (fun _ h => h.sel [] rfl) ?_
  exact AV.to (h9 { (⟨none, none, none, none, none, 0⟩ : G5) with d := b4_9 }) ⟨rfl, rfl, rfl, rfl, rfl, rfl, rfl, rfl, rfl, rfl, rfl, rfl, rfl, trivial⟩ (fun _ h => h.sel [] rfl)
 ·
  skip
  refine OV.make (K := (intK .i64)) (0) (0) (0) Tryz.underlying48 I3 rfl rfl rfl rfl rfl (by omega) (by omega) (by omega) gno rfl (fun b4_11 => ?_)
  refine AV.next (bl 15 3419) (by kernel_rfl) (fun _ h => h.sel [] rfl) ?_
  exact AV.to (h11 { (⟨none, none, none, none, none, 0⟩ : G5) with e := b4_11 }) ⟨rfl, rfl, rfl, rfl, rfl, rfl, rfl, rfl, rfl, rfl, rfl, rfl, rfl, trivial⟩ (fun _ h => h.sel [] rfl)
end Go.Proofs.YtdfkpdcpegcieaaGreatDoor
