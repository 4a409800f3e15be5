/-
 Walks, part 21.
-/
import Derived.Test.YtdfkpdcpegcieaaGreatDoorTab21
import Derived.Test.YtdfkpdcpegcieaaGreatDoorW10
set_option linter.unusedSimpArgs false
set_option linter.unusedVariables false
namespace Go.Proofs.YtdfkpdcpegcieaaGreatDoor
open Go.Sv Go.Perf Go.Ctl
set_option maxRecDepth 100000 in
set_option maxHeartbeats 1000000 in
theorem known_fn (b : Nat) {st ck dl : Int} {A : Option Addr} {n c : Nat} {fz : Nat × Nat} {w : World} (hb : w.heap[b]? = some (.cells (frC st ck dl A n c) 148 fz)) (i : Nat) (hi : i < n) : Fx Tryz.prog 59 [.pointer (some ⟨b, 0, none⟩), .int .i64 i] w [] no (fun v L => v = .bool true ∧ L = []) := by
 refine Sv.Fx.body Tryz.func59 rfl T59 rfl ?_
 intro I hro hI
 refine KV.e2 0 1 (CV.seq (CV.region ?_))
 refine RV.a rfl rfl ?_
 refine RV.nil (KV.then_n (KV.e2 0 1 (CV.seq (CV.region ?_))))
 refine RV.m rfl rfl ?_
 refine RV.op (OV.split gno (Step.geq rfl rfl) rfl (fun e1 => ?_) (fun e1 => ?_))
 ·
  refine RV.m rfl rfl (RV.gw rfl (Step.move rfl) rfl (RV.gw rfl (Step.move rfl) rfl (RV.gw rfl (Step.nilCheck rfl) rfl (RV.gw rfl (Step.fieldAddr rfl (F148_3 _ _)) rfl (RV.gw rfl (Step.load Tryz.underlying85 rfl rfl (fun w h => (cell_of (h.ro hb (hI b)) 3).trans rfl)) rfl (RV.gw rfl (Step.lenSl Tryz.underlying85 rfl) rfl ?_))))))
  refine RV.op (OV.split (gyes rfl) (Step.lss rfl rfl) rfl (fun e2 => ?_) (fun e2 => ?_))
  ·
   refine RV.s (Step.pick_t rfl rfl) rfl (RV.a rfl rfl ?_)
   refine RV.nil (KV.then_n (KV.e1 4 (CV.ret ?_)))
   refine KV.sel [] [] rfl ?_
   exact KV.ret1 rfl rfl _ (fun _ h => h) ⟨rfl, rfl⟩
  ·
   exfalso; omega
 ·
  exfalso; omega

set_option maxRecDepth 100000 in
set_option maxHeartbeats 1000000 in
theorem enter_fn (b : Nat) (A : Option Addr) (c : Nat) (es : List Int) (hl : es.length ≤ 64) (ck dl : Int) (i : Nat) (hi : i < es.length) (til : Int) (now : Int) (h1 : ck ≤ now) (h2 : now ≤ 1152921504606846976) (h3 : now ≤ til) (h4 : til ≤ 1152921504606846976) {w : World} : Fx Tryz.prog 27 [.pointer (some ⟨b, 0, none⟩), .int .i64 i, .int .u64 til, .int .u64 now] w [Blk b (.cells (frC 0 ck dl A es.length c) 148 (0, 0)), OS 24 (intK .u64) A c es] no (fun v L => v = .int .i64 0 ∧ L = [Blk b (.cells (frC 0 now dl A es.length c) 148 (0, 0)), OS 24 (intK .u64) A c (es.set i (max (es.getD i (intK .u64).d) til))]) := by
 refine Sv.Fx.body Tryz.func27 rfl T27 rfl ?_
 intro I hro hI
 refine KV.e4 0 1 2 3 (CV.seq (CV.region ?_))
 refine RV.a rfl rfl ?_
 refine RV.nil (KV.then_n (KV.e4 0 1 2 3 (CV.seq (CV.seq (CV.region ?_)))))
 refine RV.m rfl rfl (RV.m rfl rfl ?_)
 refine RV.op (OV.call [] (F := [_, _]) Tryz.func59 B59 N59 rfl rfl (fun w h => known_fn b (h.blk 0 rfl) i hi) (fun _ hb => hb.elim) gno rfl (fun v L' hp => ?_))
 obtain ⟨rfl, rfl⟩ := hp
 simp only [List.append_nil]
 refine RV.s (Step.not rfl) rfl (RV.m rfl rfl (RV.gw rfl (Step.move rfl) rfl (RV.gw rfl (Step.move rfl) rfl ?_)))
 refine RV.op (OV.split (gyes rfl) (Step.lss rfl rfl) rfl (fun e1 => ?_) (fun e1 => ?_))
 ·
  exfalso; omega
 ·
  refine RV.s (Step.pick_f rfl rfl) rfl (RV.m rfl rfl (RV.gw rfl (Step.move rfl) rfl ?_))
  refine RV.op (OV.split (gyes rfl) (Step.gtr rfl rfl) rfl (fun e2 => ?_) (fun e2 => ?_))
  ·
   exfalso; omega
  ·
   refine RV.s (Step.pick_f rfl rfl) rfl (RV.m rfl rfl (RV.gw rfl (Step.move rfl) rfl (RV.gw rfl (Step.move rfl) rfl ?_)))
   refine RV.op (OV.call [] (F := [_, _]) Tryz.func60 B60 N60 rfl rfl (fun w h => timely_fn b (h.blk 0 rfl) now h1 h2) (fun _ hb => hb.elim) (gyes rfl) rfl (fun v L' hp => ?_))
   obtain ⟨rfl, rfl⟩ := hp
   simp only [List.append_nil]
   refine RV.gw rfl (Step.not rfl) rfl (RV.s (Step.pick_f rfl rfl) rfl ?_)
   refine RV.nil (KV.then_n (KV.e5 0 1 2 3 27 (CV.cond_f rfl (CV.skip (KV.then_n ?_)))))
   refine KV.e4 0 1 2 3 (CV.seq (CV.seq (CV.region ?_)))
   refine RV.m rfl rfl (RV.s (Step.nilCheck rfl) rfl (RV.s (Step.fieldAddr rfl (F148_0 _ _)) rfl (RV.s (Step.load Tryz.underlying3 rfl rfl (fun w h => h.cell 0 rfl rfl)) rfl (RV.s (Step.neq rfl rfl) rfl ?_))))
   refine RV.nil (KV.then_n (KV.e5 0 1 2 3 32 (CV.cond_f rfl (CV.skip (KV.then_n ?_)))))
   refine KV.e4 0 1 2 3 (CV.seq (CV.region ?_))
   refine RV.m rfl rfl (RV.m rfl rfl (RV.s (Step.nilCheck rfl) rfl (RV.s (Step.fieldAddr rfl (F148_1 _ _)) rfl ?_)))
   refine RV.op (OV.store 0 [_] #[_, _, _, _] I24 rfl rfl rfl rfl rfl (Nat.le_of_ble_eq_true rfl) (by simp [Value.oneCell']) rfl gno ?_)
   refine RV.nil (KV.then_n (KV.e3 0 1 2 (CV.seq ?_)))
   refine CV.stillTail 14 (by kernel_rfl) (by kernel_rfl) (fun _ h => h.drew) ?_
   refine SV.step gno (Step.move rfl) rfl ?_
   refine SV.step gno (Step.nilCheck rfl) rfl ?_
   refine SV.step gno (Step.fieldAddr rfl (F148_3 _ _)) rfl ?_
   refine SV.step gno (Step.load Tryz.underlying85 rfl rfl (fun w h => h.cell 0 rfl rfl)) rfl ?_
   refine SV.step gno (Step.move rfl) rfl ?_
   refine SV.step gno (Step.move rfl) rfl ?_
   refine SV.step gno (Step.nilCheck rfl) rfl ?_
   refine SV.step gno (Step.fieldAddr rfl (F148_3 _ _)) rfl ?_
   refine SV.step gno (Step.load Tryz.underlying85 rfl rfl (fun w h => h.cell 0 rfl rfl)) rfl ?_
   refine SV.step gno (Step.move rfl) rfl ?_
   refine SV.step gno (Step.idx Tryz.underlying85 I24 (fun w h => h.os 1 rfl) rfl rfl (rfl) _ rfl (by exact hi)) rfl ?_
   refine SV.step gno (Step.load Tryz.underlying24 rfl rfl (fun w h => (h.os 1 rfl).cell0 hi rfl)) rfl ?_
   refine SV.step gno (Step.move rfl) rfl ?_
   refine SV.step gno (Step.max2 rfl rfl) rfl ?_
   refine SV.nil ?_
   show KV _ (wpList _ _ _ _) _ _
   refine RV.s (Step.idx Tryz.underlying85 I24 (fun w h => h.os 1 rfl) rfl rfl (rfl) _ rfl (by exact hi)) rfl ?_
   refine RV.op (OV.storeE 1 (i) ((max (es.getD i (intK .u64).d) til)) (j := 0) [_] I24 rfl rfl rfl rfl rfl rfl (by exact hi) rfl (Nat.le_of_ble_eq_true rfl) gno ?_)
   refine RV.nil (KV.then_n (KV.env [] trivial (CV.seq (CV.region ?_))))
   refine RV.a rfl rfl ?_
   refine RV.nil (KV.then_n (KV.e1 8 (CV.ret ?_)))
   refine KV.sel [0, 0] [_, _] rfl ?_
   exact KV.ret1 rfl rfl _ (fun _ h => h) ⟨rfl, rfl⟩

set_option maxRecDepth 100000 in
set_option maxHeartbeats 1000000 in
theorem advanceS_fn (b n : Nat) (hn : n ≤ 32) (ar : Bool) (ck : Int) (now : Int) (h1 : ck ≤ now) (h2 : now ≤ 1152921504606846976) {w : World} : Fx Tryz.prog 67 [.pointer (some ⟨b, 0, none⟩), .int .u64 now] w [Blk b (.cells (srcA n ar ck) 188 (0, 0))] no (fun v L => v = .int .i64 0 ∧ L = [Blk b (.cells (srcA n ar now) 188 (0, 0))]) := by
 refine Sv.Fx.body Tryz.func67 rfl T67 rfl ?_
 intro I hro hI
 refine KV.e2 0 1 (CV.seq (CV.region ?_))
 refine RV.a rfl rfl ?_
 refine RV.nil (KV.then_n (KV.e2 0 1 (CV.seq (CV.seq (CV.region ?_)))))
 refine RV.m rfl rfl (RV.m rfl rfl ?_)
 refine RV.op (OV.call [] (F := [_]) Tryz.func91 B91 N91 rfl rfl (fun w h => permitted_fn b (h.blk 0 rfl) now h1 h2) (fun _ hb => hb.elim) gno rfl (fun v L' hp => ?_))
 obtain ⟨rfl, rfl⟩ := hp
 simp only [List.append_nil]
 refine RV.s (Step.not rfl) rfl ?_
 refine RV.nil (KV.then_n (KV.e3 0 1 8 (CV.cond_f rfl (CV.skip (KV.then_n ?_)))))
 refine KV.e2 0 1 (CV.seq (CV.region ?_))
 refine RV.m rfl rfl (RV.m rfl rfl ?_)
 refine RV.op (OV.call [0] (F := []) Tryz.func92 B92 N92 rfl rfl (fun w h => advance_fn b n hn ar ck now) (fun _ hb => hb.elim) gno rfl (fun v L' hp => ?_))
 obtain ⟨rfl, rfl⟩ := hp
 refine RV.nil (KV.then_n (KV.env [] trivial (CV.seq (CV.region ?_))))
 refine RV.a rfl rfl ?_
 refine RV.nil (KV.then_n (KV.e1 4 (CV.ret ?_)))
 refine KV.sel [0] [_] rfl ?_
 exact KV.ret1 rfl rfl _ (fun _ h => h) ⟨rfl, rfl⟩

set_option maxRecDepth 100000 in
set_option maxHeartbeats 1000000 in
theorem thaw0_fn (b : Nat) (A : Option Addr) (n c : Nat) (ck dl : Int) (now : Int) (h1 : ck ≤ now) (h2 : now ≤ 1152921504606846976) {w : World} : Fx Tryz.prog 94 [.pointer (some ⟨b, 0, none⟩), .int .u64 now] w [Blk b (.cells (frC 0 ck dl A n c) 148 (0, 0))] no (fun v L => v = .int .i64 9 ∧ L = [Blk b (.cells (frC 0 ck dl A n c) 148 (0, 0))]) := by
 refine Sv.Fx.body Tryz.func94 rfl T94 rfl ?_
 intro I hro hI
 refine KV.e2 0 1 (CV.seq (CV.region ?_))
 refine RV.a rfl rfl ?_
 refine RV.nil (KV.then_n (KV.e2 0 1 (CV.seq (CV.seq (CV.region ?_)))))
 refine RV.m rfl rfl (RV.m rfl rfl ?_)
 refine RV.op (OV.call [] (F := [_]) Tryz.func60 B60 N60 rfl rfl (fun w h => timely_fn b (h.blk 0 rfl) now h1 h2) (fun _ hb => hb.elim) gno rfl (fun v L' hp => ?_))
 obtain ⟨rfl, rfl⟩ := hp
 simp only [List.append_nil]
 refine RV.s (Step.not rfl) rfl ?_
 refine RV.nil (KV.then_n (KV.e3 0 1 8 (CV.cond_f rfl (CV.skip (KV.then_n ?_)))))
 refine KV.e2 0 1 (CV.seq (CV.seq (CV.region ?_)))
 refine RV.m rfl rfl (RV.s (Step.nilCheck rfl) rfl (RV.s (Step.fieldAddr rfl (F148_0 _ _)) rfl (RV.s (Step.load Tryz.underlying3 rfl rfl (fun w h => h.cell 0 rfl rfl)) rfl (RV.s (Step.eql rfl rfl) rfl ?_))))
 refine RV.nil (KV.then_n (KV.e3 0 1 13 (CV.cond_t rfl (CV.seq (CV.region ?_)))))
 refine RV.a rfl rfl ?_
 refine RV.nil (KV.then_n (KV.e1 4 (CV.ret (KV.then_ret ?_))))
 refine KV.sel [0] [_] rfl ?_
 exact KV.ret1 rfl rfl _ (fun _ h => h) ⟨rfl, rfl⟩

set_option maxRecDepth 100000 in
set_option maxHeartbeats 1000000 in
theorem disarm_fn (b : Nat) (n : Int) (ar : Bool) (ck : Int) {w : World} : Fx Tryz.prog 95 [.pointer (some ⟨b, 0, none⟩)] w [Blk b (.cells (srcA n ar ck) 188 (0, 0))] no (fun v L => v = .tuple #[] ∧ L = [Blk b (.cells (srcA n false ck) 188 (0, 0))]) := by
 refine Sv.Fx.body Tryz.func95 rfl T95 rfl ?_
 intro I hro hI
 refine KV.e1 0 (CV.seq (CV.region ?_))
 refine RV.m rfl rfl (RV.s (Step.nilCheck rfl) rfl (RV.s (Step.fieldAddr rfl (F188_5 _ _)) rfl ?_))
 refine RV.op (OV.store 0 [_] #[_, _, _, _, _, _, _, _, _, _, _, _, _, _, _, _, _, _, _, _, _, _, _, _, _, _, _, _, _, _, _, _, _, _, _, _, _, _, _, _, _, _, _, _, _, _, _, _, _, _, _, _, _, _, _, _, _, _, _, _, _, _, _, _, _, _, _, _, _, _, _, _, _, _, _, _, _, _, _, _, _, _, _, _, _, _, _, _, _, _, _, _, _, _, _, _, _, _, _, _, _, _, _] I4 rfl rfl rfl rfl rfl (Nat.le_of_ble_eq_true rfl) (by simp [Value.oneCell']) rfl gno ?_)
 refine RV.nil (KV.then_n (KV.e1 0 (CV.region ?_)))
 refine RV.m rfl rfl (RV.s (Step.nilCheck rfl) rfl (RV.s (Step.fieldAddr rfl (F188_6 _ _)) rfl ?_))
 refine RV.op (OV.store 0 [_] #[_, _, _, _, _, _, _, _, _, _, _, _, _, _, _, _, _, _, _, _, _, _, _, _, _, _, _, _, _, _, _, _, _, _, _, _, _, _, _, _, _, _, _, _, _, _, _, _, _, _, _, _, _, _, _, _, _, _, _, _, _, _, _, _, _, _, _, _, _, _, _, _, _, _, _, _, _, _, _, _, _, _, _, _, _, _, _, _, _, _, _, _, _, _, _, _, _, _, _, _, _, _, _] I3 rfl rfl rfl rfl rfl (Nat.le_of_ble_eq_true rfl) (by simp [Value.oneCell']) rfl gno ?_)
 refine RV.nil ?_
 refine KV.sel [0] [_] rfl ?_
 exact KV.ret0 rfl _ (fun _ h => h) ⟨rfl, rfl⟩

set_option maxRecDepth 100000 in
set_option maxHeartbeats 1000000 in
theorem srcRefNew_fn (n : Nat) (hn : n ≤ 32) {w : World} : Fx Tryz.prog 56 [.int .i64 n] w [] no (fun v L => (∃ b, v = .tuple #[.pointer (some ⟨b, 0, none⟩), .int .i64 0]) ∧ L = []) := by
 refine Sv.Fx.body Tryz.func56 rfl T56 rfl ?_
 intro I hro hI
 refine KV.e1 0 (CV.seq (CV.region ?_))
 refine RV.a rfl rfl (RV.a rfl rfl ?_)
 refine RV.nil (KV.then_n (KV.e1 0 (CV.seq (CV.seq (CV.region ?_)))))
 refine RV.m rfl rfl ?_
 refine RV.op (OV.split gno (Step.lss rfl rfl) rfl (fun e1 => ?_) (fun e1 => ?_))
 ·
  exfalso; omega
 ·
  refine RV.m rfl rfl (RV.gw rfl (Step.move rfl) rfl ?_)
  refine RV.op (OV.split (gyes rfl) (Step.gtr rfl rfl) rfl (fun e2 => ?_) (fun e2 => ?_))
  ·
   exfalso; omega
  ·
   refine RV.s (Step.pick_f rfl rfl) rfl ?_
   refine RV.nil (KV.then_n (KV.e2 0 9 (CV.cond_f rfl (CV.skip (KV.then_n ?_)))))
   refine KV.e1 0 (CV.seq ?_)
   refine CV.any (Hp I w []) (by kernel_rfl) (fun _ h => h.drew) 8 rfl ?_
   refine AV.u 0 (bl 8 1) rfl gno (Step.move rfl) rfl (fun _ h => h.sel [] rfl) ?_
   refine AV.u 2 (bl 8 5) rfl gno (Step.move rfl) rfl (fun _ h => h.sel [] rfl) ?_
   refine AV.all [1, 3] (by kernel_rfl) (by decide) ?_
   refine ⟨⟨_, rfl, ?_⟩, ⟨⟨_, rfl, ?_⟩, trivial⟩⟩
   ·
    refine OV.make (K := bolK) (n) (n) (false) Tryz.underlying202 I4 rfl rfl rfl rfl rfl (by omega) (by omega) (by omega) gno rfl (fun b3_1 => ?_)
    refine AV.next (bl 8 7) (by kernel_rfl) (fun _ h => h.sel [] rfl) ?_
    refine AV.all [3] (by kernel_rfl) (by decide) ?_
    refine ⟨⟨_, rfl, ?_⟩, trivial⟩
    ·
     refine OV.make (K := (intK .u64)) (n) (n) (0) Tryz.underlying85 I24 rfl rfl rfl rfl rfl (by omega) (by omega) (by omega) gno rfl (fun b3_3 => ?_)
     refine AV.next (bl 8 15) (by kernel_rfl) (fun _ h => h.sel [] rfl) ?_
     refine AV.u 4 (bl 8 31) rfl gno (Step.build rfl (Bd231_0_1 _ _ _ _ _ _)) rfl (fun _ h => h.sel [] rfl) ?_
     refine AV.all [5] (by kernel_rfl) (by decide) ?_
     refine ⟨⟨_, rfl, ?_⟩, trivial⟩
     ·
      refine OV.box (t := 231) #[_, _, _, _, _, _, _, _] rfl rfl gno rfl (fun b3_5 => ?_)
      refine AV.next (bl 8 63) (by kernel_rfl) (fun _ h => h.sel [] rfl) ?_
      refine AV.u 6 (bl 8 127) rfl gno (Step.assign rfl) rfl (fun _ h => h.sel [] rfl) ?_
      refine AV.u 7 (bl 8 255) rfl gno (Step.assign rfl) rfl (fun _ h => h.sel [] rfl) ?_
      refine AV.done (by kernel_rfl) ?_
      refine KV.then_n (KV.e2 2 3 (CV.ret ?_))
      refine KV.sel [] [] rfl ?_
      exact KV.ret2 rfl rfl rfl _ (fun _ h => h) ⟨⟨_, rfl⟩, rfl⟩
   ·
    refine OV.make (K := (intK .u64)) (n) (n) (0) Tryz.underlying85 I24 rfl rfl rfl rfl rfl (by omega) (by omega) (by omega) gno rfl (fun b3_3 => ?_)
    refine AV.next (bl 8 13) (by kernel_rfl) (fun _ h => h.sel [] rfl) ?_
    refine AV.all [1] (by kernel_rfl) (by decide) ?_
    refine ⟨⟨_, rfl, ?_⟩, trivial⟩
    ·
     refine OV.make (K := bolK) (n) (n) (false) Tryz.underlying202 I4 rfl rfl rfl rfl rfl (by omega) (by omega) (by omega) gno rfl (fun b3_1 => ?_)
     refine AV.next (bl 8 15) (by kernel_rfl) (fun _ h => h.sel [] rfl) ?_
     refine AV.u 4 (bl 8 31) rfl gno (Step.build rfl (Bd231_0_1 _ _ _ _ _ _)) rfl (fun _ h => h.sel [] rfl) ?_
     refine AV.all [5] (by kernel_rfl) (by decide) ?_
     refine ⟨⟨_, rfl, ?_⟩, trivial⟩
     ·
      refine OV.box (t := 231) #[_, _, _, _, _, _, _, _] rfl rfl gno rfl (fun b3_5 => ?_)
      refine AV.next (bl 8 63) (by kernel_rfl) (fun _ h => h.sel [] rfl) ?_
      refine AV.u 6 (bl 8 127) rfl gno (Step.assign rfl) rfl (fun _ h => h.sel [] rfl) ?_
      refine AV.u 7 (bl 8 255) rfl gno (Step.assign rfl) rfl (fun _ h => h.sel [] rfl) ?_
      refine AV.done (by kernel_rfl) ?_
      refine KV.then_n (KV.e2 2 3 (CV.ret ?_))
      refine KV.sel [] [] rfl ?_
      exact KV.ret2 rfl rfl rfl _ (fun _ h => h) ⟨⟨_, rfl⟩, rfl⟩

set_option maxRecDepth 100000 in
set_option maxHeartbeats 1000000 in
theorem frRefNew_fn (n : Nat) (hn : n ≤ 64) {w : World} : Fx Tryz.prog 57 [.int .i64 n] w [] no (fun v L => (∃ b, v = .tuple #[.pointer (some ⟨b, 0, none⟩), .int .i64 0]) ∧ L = []) := by
 refine Sv.Fx.body Tryz.func57 rfl T57 rfl ?_
 intro I hro hI
 refine KV.e1 0 (CV.seq (CV.region ?_))
 refine RV.a rfl rfl (RV.a rfl rfl ?_)
 refine RV.nil (KV.then_n (KV.e1 0 (CV.seq (CV.seq (CV.region ?_)))))
 refine RV.m rfl rfl ?_
 refine RV.op (OV.split gno (Step.lss rfl rfl) rfl (fun e1 => ?_) (fun e1 => ?_))
 ·
  exfalso; omega
 ·
  refine RV.m rfl rfl (RV.gw rfl (Step.move rfl) rfl ?_)
  refine RV.op (OV.split (gyes rfl) (Step.gtr rfl rfl) rfl (fun e2 => ?_) (fun e2 => ?_))
  ·
   exfalso; omega
  ·
   refine RV.s (Step.pick_f rfl rfl) rfl ?_
   refine RV.nil (KV.then_n (KV.e2 0 9 (CV.cond_f rfl (CV.skip (KV.then_n ?_)))))
   refine KV.e1 0 (CV.seq (CV.region ?_))
   refine RV.m rfl rfl ?_
   refine RV.op (OV.make (K := (intK .u64)) (n) (n) (0) Tryz.underlying85 I24 rfl rfl rfl rfl rfl (by omega) (by omega) (by omega) gno rfl (fun b3_1 => ?_))
   refine RV.s (Step.build rfl (Bd233_0 _ _ _)) rfl ?_
   refine RV.op (OV.box (t := 233) #[_, _, _, _] rfl rfl gno rfl (fun b3_3 => ?_))
   refine RV.a rfl rfl (RV.a rfl rfl ?_)
   refine RV.nil (KV.then_n (KV.e2 2 3 (CV.ret ?_)))
   refine KV.sel [] [] rfl ?_
   exact KV.ret2 rfl rfl rfl _ (fun _ h => h) ⟨⟨_, rfl⟩, rfl⟩

set_option maxRecDepth 100000 in
set_option maxHeartbeats 1000000 in
theorem sleepRefNew_fn (pp wp fp : Option Addr) {w : World} : Fx Tryz.prog 58 [.pointer pp, .pointer wp, .pointer fp] w [] no (fun v L => (∃ b, v = .pointer (some ⟨b, 0, none⟩)) ∧ L = []) := by
 refine Sv.Fx.body Tryz.func58 rfl T58 rfl ?_
 intro I hro hI
 refine KV.e3 0 1 2 (CV.seq (CV.region ?_))
 refine RV.a rfl rfl ?_
 refine RV.nil (KV.then_n (KV.e3 0 1 2 (CV.seq (CV.region ?_))))
 refine RV.m rfl rfl (RV.m rfl rfl (RV.m rfl rfl (RV.s (Step.build rfl (Bd236_0_1_2_4 _ _ _ _)) rfl ?_)))
 refine RV.op (OV.box (t := 236) #[_, _, _, _, _, _, _, _] rfl rfl gno rfl (fun b1_4 => ?_))
 refine RV.a rfl rfl ?_
 refine RV.nil (KV.then_n (KV.e1 6 (CV.ret ?_)))
 refine KV.sel [] [] rfl ?_
 exact KV.ret1 rfl rfl _ (fun _ h => h) ⟨⟨_, rfl⟩, rfl⟩

set_option maxRecDepth 100000 in
set_option maxHeartbeats 1000000 in
theorem finish0_fn (s w0 f : Nat) (n : Int) (ar : Bool) (ck : Int) (pp sp : Option Addr) (md sy la ea : Int) (fA : Option Addr) (fc : Nat) (es : List Int) (fk dl : Int) (r now : Int) (h1 : fk ≤ now) (h2 : now ≤ 1152921504606846976) {w : World} : Fx Tryz.prog 65 [.pointer (some ⟨s, 0, none⟩), .int .i64 r, .int .u64 now] w [Blk s (.cells (slC pp (some ⟨w0, 0, none⟩) (some ⟨f, 0, none⟩) sp md sy la ea) 151 (0, 0)), Blk w0 (.cells (srcA n ar ck) 188 (0, 0)), Blk f (.cells (frC 0 fk dl fA es.length fc) 148 (0, 0)), OS 24 (intK .u64) fA fc es] no (fun v L => v = .tuple #[] ∧ L = [Blk s (.cells (slC pp (some ⟨w0, 0, none⟩) (some ⟨f, 0, none⟩) sp 1 sy r ea) 151 (0, 0)), Blk w0 (.cells (srcA n false ck) 188 (0, 0)), Blk f (.cells (frC 0 fk dl fA es.length fc) 148 (0, 0)), OS 24 (intK .u64) fA fc es]) := by
 refine Sv.Fx.body Tryz.func65 rfl T65 rfl ?_
 intro I hro hI
 refine KV.e3 0 1 2 (CV.seq (CV.region ?_))
 refine RV.m rfl rfl (RV.s (Step.nilCheck rfl) rfl (RV.s (Step.fieldAddr rfl (F151_2 _ _)) rfl (RV.s (Step.load Tryz.underlying75 rfl rfl (fun w h => h.cell 0 rfl rfl)) rfl (RV.m rfl rfl ?_))))
 refine RV.op (OV.call [2] (F := [_, _, _]) Tryz.func94 B94 N94 rfl rfl (fun w h => thaw0_fn f fA es.length fc fk dl now h1 h2) (fun _ hb => hb.elim) gno rfl (fun v L' hp => ?_))
 obtain ⟨rfl, rfl⟩ := hp
 refine RV.nil (KV.then_n (KV.e2 0 1 (CV.seq (CV.region ?_))))
 refine RV.m rfl rfl (RV.s (Step.nilCheck rfl) rfl (RV.s (Step.fieldAddr rfl (F151_1 _ _)) rfl (RV.s (Step.load Tryz.underlying74 rfl rfl (fun w h => h.cell 0 rfl rfl)) rfl ?_)))
 refine RV.op (OV.call [1] (F := [_, _, _]) Tryz.func95 B95 N95 rfl rfl (fun w h => disarm_fn w0 n ar ck) (fun _ hb => hb.elim) gno rfl (fun v L' hp => ?_))
 obtain ⟨rfl, rfl⟩ := hp
 refine RV.nil (KV.then_n (KV.e2 0 1 (CV.seq (CV.region ?_))))
 refine RV.m rfl rfl (RV.m rfl rfl (RV.s (Step.nilCheck rfl) rfl (RV.s (Step.fieldAddr rfl (F151_6 _ _)) rfl ?_)))
 refine RV.op (OV.store 0 [_] #[_, _, _, _, _, _, _, _] I28 rfl rfl rfl rfl rfl (Nat.le_of_ble_eq_true rfl) (by simp [Value.oneCell']) rfl gno ?_)
 refine RV.nil (KV.then_n (KV.e1 0 (CV.region ?_)))
 refine RV.m rfl rfl (RV.s (Step.nilCheck rfl) rfl (RV.s (Step.fieldAddr rfl (F151_4 _ _)) rfl ?_))
 refine RV.op (OV.store 0 [_] #[_, _, _, _, _, _, _, _] I3 rfl rfl rfl rfl rfl (Nat.le_of_ble_eq_true rfl) (by simp [Value.oneCell']) rfl gno ?_)
 refine RV.nil ?_
 refine KV.sel [0, 2, 1, 0] [_, _, _, _] rfl ?_
 exact KV.ret0 rfl _ (fun _ h => h) ⟨rfl, rfl⟩
end Go.Proofs.YtdfkpdcpegcieaaGreatDoor
