/-
 Walks, part 22.
-/
import Derived.Test.YtdfkpdcpegcieaaGreatDoorTab22
import Derived.Test.YtdfkpdcpegcieaaGreatDoorW21
import Derived.Test.YtdfkpdcpegcieaaGreatDoorNt
set_option linter.unusedSimpArgs false
set_option linter.unusedVariables false
namespace Go.Proofs.YtdfkpdcpegcieaaGreatDoor
open Go.Sv Go.Perf Go.Ctl
set_option maxRecDepth 100000 in
set_option maxHeartbeats 1000000 in
theorem sfreeze1_fn (s w0 p f : Nat) (n : Int) (ar : Bool) (ck : Int) (sp tp mp bp : Option Addr) (oA : Option Addr) (oc : Nat) (sy la ea : Int) (fA : Option Addr) (fc : Nat) (es : List Int) (hl : es.length ≤ 64) (fk dl : Int) (now : Int) (h1 : fk ≤ now) (h2 : now ≤ 1152921504606846976) {w : World} : Fx Tryz.prog 66 [.pointer (some ⟨s, 0, none⟩), .int .u64 now] w [Blk s (.cells (slC (some ⟨p, 0, none⟩) (some ⟨w0, 0, none⟩) (some ⟨f, 0, none⟩) sp 2 sy la ea) 151 (0, 0)), Blk w0 (.cells (srcA n ar ck) 188 (0, 0)), Blk p (.cells #[.slice none 0 0, .pointer tp, .pointer mp, .pointer bp, .slice oA 0 oc] 170 (0, 0)), Blk f (.cells (frC 1 fk dl fA es.length fc) 148 (0, 0)), OS 24 (intK .u64) fA fc es] no (fun v L => v = .tuple #[] ∧ ((allLe es (min now dl) es.length = true ∧ ∃ q A c rest, L = [Blk s (.cells (slC (some ⟨p, 0, none⟩) (some ⟨w0, 0, none⟩) (some ⟨f, 0, none⟩) (some ⟨q, 0, none⟩) 4 sy la ea) 151 (0, 0)), Blk w0 (.cells (srcA n ar ck) 188 (0, 0)), Blk p (.cells #[.slice none 0 0, .pointer tp, .pointer mp, .pointer bp, .slice oA 0 oc] 170 (0, 0)), Blk f (.cells (frC 2 now dl fA es.length fc) 148 (0, 0)), OS 24 (intK .u64) fA fc es, Blk q (.cells (sqC A c 2 rest) 242 (0, 0))]) ∨ ((¬ allLe es (min now dl) es.length = true ∧ dl ≤ now) ∧ L = [Blk s (.cells (slC (some ⟨p, 0, none⟩) (some ⟨w0, 0, none⟩) (some ⟨f, 0, none⟩) sp 1 sy 14 ea) 151 (0, 0)), Blk w0 (.cells (srcA n false ck) 188 (0, 0)), Blk p (.cells #[.slice none 0 0, .pointer tp, .pointer mp, .pointer bp, .slice oA 0 oc] 170 (0, 0)), Blk f (.cells (frC 0 now dl fA es.length fc) 148 (0, 0)), OS 24 (intK .u64) fA fc es]) ∨ ((¬ allLe es (min now dl) es.length = true ∧ ¬ dl ≤ now) ∧ L = [Blk s (.cells (slC (some ⟨p, 0, none⟩) (some ⟨w0, 0, none⟩) (some ⟨f, 0, none⟩) sp 2 sy la ea) 151 (0, 0)), Blk w0 (.cells (srcA n ar ck) 188 (0, 0)), Blk p (.cells #[.slice none 0 0, .pointer tp, .pointer mp, .pointer bp, .slice oA 0 oc] 170 (0, 0)), Blk f (.cells (frC 1 now dl fA es.length fc) 148 (0, 0)), OS 24 (intK .u64) fA fc es]))) := by
 refine Sv.Fx.body Tryz.func66 rfl T66 rfl ?_
 intro I hro hI
 refine KV.e2 0 1 (CV.seq (CV.region ?_))
 refine RV.m rfl rfl (RV.s (Step.nilCheck rfl) rfl (RV.s (Step.fieldAddr rfl (F151_2 _ _)) rfl (RV.s (Step.load Tryz.underlying75 rfl rfl (fun w h => h.cell 0 rfl rfl)) rfl (RV.m rfl rfl ?_))))
 refine RV.op (OV.call [3, 3] (F := [_, _, _]) Tryz.func93 B93 N93 rfl rfl (fun w h => frAdv_fn f fA fc es hl fk dl now h1 h2) (fun _ hb => hb.elim) gno rfl (fun v L' hp => ?_))
 obtain ⟨rfl, rfl⟩ := hp
 rcases ad_cases es dl now with ⟨hal, e1, e2, e3⟩ | ⟨hal, e1, e2, e3⟩ | ⟨hal, e1, e2, e3⟩
 ·
  skip
  rw [e1, e2, e3]
  refine RV.m rfl rfl (RV.s (Step.extract0 rfl rfl) rfl (RV.s (Step.extract0 rfl rfl) rfl (RV.a rfl rfl (RV.a rfl rfl ?_))))
  refine RV.nil (KV.then_n (KV.e4 0 1 4 5 (CV.block (CV.seq (CV.region ?_)))))
  refine RV.m rfl rfl (RV.s (Step.neq rfl rfl) rfl (RV.a rfl rfl ?_))
  refine RV.nil (KV.then_n (KV.e5 0 1 4 5 15 (CV.cond_f rfl (CV.seq (CV.region ?_)))))
  refine RV.m rfl rfl (RV.a rfl rfl ?_)
  refine RV.nil (KV.then_n (KV.e3 0 1 22 (CV.cond_t rfl (CV.region ?_))))
  refine RV.m rfl rfl (RV.m rfl rfl ?_)
  refine RV.op (OV.call [0, 0, 0] (F := [_, _]) Tryz.func96 B96 N96 rfl rfl (fun w h => begin_fn s w0 p n ar ck _ sp tp mp bp oA oc sy la ea now) (fun _ hb => hb.elim) gno rfl (fun v L' hp => ?_))
  obtain ⟨rfl, q, Aq, cq, rest, rfl⟩ := hp
  refine RV.nil (KV.block_n ?_)
  refine KV.sel [2, 2, 2, 0, 0, 0] [_, _, _, _, _, _] rfl ?_
  first | exact KV.ret0 rfl _ (fun _ h => h) ⟨rfl, .inl ⟨hal, _, _, _, _, rfl⟩⟩ | exact KV.ret0 rfl _ (fun _ h => h) ⟨rfl, .inr (.inl ⟨hal, rfl⟩)⟩ | exact KV.ret0 rfl _ (fun _ h => h) ⟨rfl, .inr (.inr ⟨hal, rfl⟩)⟩
 ·
  skip
  rw [e1, e2, e3]
  refine RV.m rfl rfl (RV.s (Step.extract0 rfl rfl) rfl (RV.s (Step.extract0 rfl rfl) rfl (RV.a rfl rfl (RV.a rfl rfl ?_))))
  refine RV.nil (KV.then_n (KV.e4 0 1 4 5 (CV.block (CV.seq (CV.region ?_)))))
  refine RV.m rfl rfl (RV.s (Step.neq rfl rfl) rfl (RV.a rfl rfl ?_))
  refine RV.nil (KV.then_n (KV.e5 0 1 4 5 15 (CV.cond_t rfl (CV.region ?_))))
  refine RV.m rfl rfl (RV.m rfl rfl (RV.m rfl rfl ?_))
  refine RV.op (OV.call [0, 0, 1, 1] (F := [_]) Tryz.func65 B65 N65 rfl rfl (fun w h => finish0_fn s w0 f n ar ck _ sp 2 sy la ea fA fc es now dl 14 now (Int.le_refl _) h2) (fun _ hb => hb.elim) gno rfl (fun v L' hp => ?_))
  obtain ⟨rfl, rfl⟩ := hp
  refine RV.nil (KV.block_n ?_)
  refine KV.sel [1, 1, 0, 0, 0] [_, _, _, _, _] rfl ?_
  first | exact KV.ret0 rfl _ (fun _ h => h) ⟨rfl, .inl ⟨hal, _, _, _, _, rfl⟩⟩ | exact KV.ret0 rfl _ (fun _ h => h) ⟨rfl, .inr (.inl ⟨hal, rfl⟩)⟩ | exact KV.ret0 rfl _ (fun _ h => h) ⟨rfl, .inr (.inr ⟨hal, rfl⟩)⟩
 ·
  skip
  rw [e1, e2, e3]
  refine RV.m rfl rfl (RV.s (Step.extract0 rfl rfl) rfl (RV.s (Step.extract0 rfl rfl) rfl (RV.a rfl rfl (RV.a rfl rfl ?_))))
  refine RV.nil (KV.then_n (KV.e4 0 1 4 5 (CV.block (CV.seq (CV.region ?_)))))
  refine RV.m rfl rfl (RV.s (Step.neq rfl rfl) rfl (RV.a rfl rfl ?_))
  refine RV.nil (KV.then_n (KV.e5 0 1 4 5 15 (CV.cond_f rfl (CV.seq (CV.region ?_)))))
  refine RV.m rfl rfl (RV.a rfl rfl ?_)
  refine RV.nil (KV.then_n (KV.e3 0 1 22 (CV.cond_f rfl (CV.skip (KV.block_n ?_)))))
  refine KV.sel [0, 0, 0, 0, 0] [_, _, _, _, _] rfl ?_
  first | exact KV.ret0 rfl _ (fun _ h => h) ⟨rfl, .inl ⟨hal, _, _, _, _, rfl⟩⟩ | exact KV.ret0 rfl _ (fun _ h => h) ⟨rfl, .inr (.inl ⟨hal, rfl⟩)⟩ | exact KV.ret0 rfl _ (fun _ h => h) ⟨rfl, .inr (.inr ⟨hal, rfl⟩)⟩

set_option maxRecDepth 100000 in
set_option maxHeartbeats 1000000 in
theorem sbegin2_fn (s w0 p f n : Nat) (hn : n ≤ 32) (ar : Bool) (ck : Int) (sp tp mp bp : Option Addr) (oA : Option Addr) (oc : Nat) (sy la ea : Int) (fA : Option Addr) (fc : Nat) (es : List Int) (hl : es.length ≤ 64) (fk dl : Int) (sys now to : Int) (h1 : fk ≤ now) (h1c : ck ≤ now) (h0 : 0 ≤ now) (h0t : 0 ≤ to) (h2 : now + to ≤ 1152921504606846976) (hs1 : 1 ≤ sys) (hs2 : sys ≤ 4) {w : World} : Fx Tryz.prog 28 [.pointer (some ⟨s, 0, none⟩), .int .i64 sys, .int .u64 now, .int .u64 to] w [Blk s (.cells (slC (some ⟨p, 0, none⟩) (some ⟨w0, 0, none⟩) (some ⟨f, 0, none⟩) sp 1 sy la ea) 151 (0, 0)), Blk w0 (.cells (srcA n ar ck) 188 (0, 0)), Blk p (.cells #[.slice none 0 0, .pointer tp, .pointer mp, .pointer bp, .slice oA 0 oc] 170 (0, 0)), Blk f (.cells (frC 0 fk dl fA es.length fc) 148 (0, 0)), OS 24 (intK .u64) fA fc es] no (fun v L => v = .int .i64 0 ∧ ((allLe es (min now (now + to)) es.length = true ∧ ∃ q A c rest, L = [Blk s (.cells (slC (some ⟨p, 0, none⟩) (some ⟨w0, 0, none⟩) (some ⟨f, 0, none⟩) (some ⟨q, 0, none⟩) 4 sys la 0) 151 (0, 0)), Blk w0 (.cells (srcA n true now) 188 (0, 0)), Blk p (.cells #[.slice none 0 0, .pointer tp, .pointer mp, .pointer bp, .slice oA 0 oc] 170 (0, 0)), Blk f (.cells (frC 2 now (now + to) fA es.length fc) 148 (0, 0)), OS 24 (intK .u64) fA fc es, Blk q (.cells (sqC A c 2 rest) 242 (0, 0))]) ∨ ((¬ allLe es (min now (now + to)) es.length = true ∧ (now + to) ≤ now) ∧ L = [Blk s (.cells (slC (some ⟨p, 0, none⟩) (some ⟨w0, 0, none⟩) (some ⟨f, 0, none⟩) sp 1 sys 14 0) 151 (0, 0)), Blk w0 (.cells (srcA n false now) 188 (0, 0)), Blk p (.cells #[.slice none 0 0, .pointer tp, .pointer mp, .pointer bp, .slice oA 0 oc] 170 (0, 0)), Blk f (.cells (frC 0 now (now + to) fA es.length fc) 148 (0, 0)), OS 24 (intK .u64) fA fc es]) ∨ ((¬ allLe es (min now (now + to)) es.length = true ∧ ¬ (now + to) ≤ now) ∧ L = [Blk s (.cells (slC (some ⟨p, 0, none⟩) (some ⟨w0, 0, none⟩) (some ⟨f, 0, none⟩) sp 2 sys la 0) 151 (0, 0)), Blk w0 (.cells (srcA n true now) 188 (0, 0)), Blk p (.cells #[.slice none 0 0, .pointer tp, .pointer mp, .pointer bp, .slice oA 0 oc] 170 (0, 0)), Blk f (.cells (frC 1 now (now + to) fA es.length fc) 148 (0, 0)), OS 24 (intK .u64) fA fc es]))) := by
 refine Sv.Fx.body Tryz.func28 rfl T28 rfl ?_
 intro I hro hI
 refine KV.e4 0 1 2 3 (CV.seq (CV.region ?_))
 refine RV.a rfl rfl ?_
 refine RV.nil (KV.then_n (KV.e4 0 1 2 3 (CV.seq (CV.seq (CV.region ?_)))))
 refine RV.m rfl rfl (RV.s (Step.nilCheck rfl) rfl (RV.s (Step.fieldAddr rfl (F151_4 _ _)) rfl (RV.s (Step.load Tryz.underlying3 rfl rfl (fun w h => h.cell 0 rfl rfl)) rfl (RV.s (Step.neq rfl rfl) rfl ?_))))
 refine RV.nil (KV.then_n (KV.e5 0 1 2 3 16 (CV.cond_f rfl (CV.skip (KV.then_n ?_)))))
 refine KV.e4 0 1 2 3 (CV.seq (CV.seq (CV.region ?_)))
 refine RV.m rfl rfl ?_
 refine RV.op (OV.callP Tryz.func61 B61 N61 rfl (sleepState_fn sys hs1 hs2) gno rfl ?_)
 refine RV.s (Step.not rfl) rfl (RV.m rfl rfl (RV.gw rfl (Step.move rfl) rfl ?_))
 refine RV.op (OV.split (gyes rfl) (Step.gtr rfl rfl) rfl (fun e1 => ?_) (fun e1 => ?_))
 ·
  exfalso; omega
 ·
  refine RV.s (Step.pick_f rfl rfl) rfl (RV.m rfl rfl (RV.gw rfl (Step.move rfl) rfl (RV.gw rfl (Step.move rfl) rfl ?_)))
  (first | refine RV.op (OV.step (gyes rfl) (Step.sub rfl rfl (wU64 (by omega) (by omega))) rfl ?_) | refine RV.op (OV.step (gyes rfl) (Step.sub rfl rfl rfl) rfl ?_))
  refine RV.op (OV.split (gyes rfl) (Step.gtr rfl rfl) rfl (fun e2 => ?_) (fun e2 => ?_))
  ·
   exfalso; omega
  ·
   refine RV.s (Step.pick_f rfl rfl) rfl ?_
   refine RV.nil (KV.then_n (KV.e5 0 1 2 3 29 (CV.cond_f rfl (CV.skip (KV.then_n ?_)))))
   refine KV.e4 0 1 2 3 (CV.seq (CV.region ?_))
   refine RV.m rfl rfl (RV.s (Step.nilCheck rfl) rfl (RV.s (Step.fieldAddr rfl (F151_1 _ _)) rfl (RV.s (Step.load Tryz.underlying74 rfl rfl (fun w h => h.cell 0 rfl rfl)) rfl ?_)))
   refine RV.op (OV.call [] (F := [_, _, _, _, _]) Tryz.func62 B62 N62 rfl rfl (fun w h => counts_fn w0 (h.blk 1 rfl)) (fun _ hb => hb.elim) gno rfl (fun v L' hp => ?_))
   obtain ⟨rfl, rfl⟩ := hp
   simp only [List.append_nil]
   refine RV.m rfl rfl (RV.s (Step.extract0 rfl rfl) rfl (RV.s (Step.extract0 rfl rfl) rfl (RV.a rfl rfl (RV.a rfl rfl ?_))))
   refine RV.nil (KV.then_n (KV.e5 0 1 2 3 9 (CV.seq (CV.seq (CV.region ?_)))))
   refine RV.m rfl rfl (RV.s (Step.nilCheck rfl) rfl (RV.s (Step.fieldAddr rfl (F151_1 _ _)) rfl (RV.s (Step.load Tryz.underlying74 rfl rfl (fun w h => h.cell 0 rfl rfl)) rfl (RV.m rfl rfl (RV.m rfl rfl ?_)))))
   refine RV.op (OV.call [1] (F := [_, _, _, _]) Tryz.func63 B63 N63 rfl rfl (fun w h => arm_fn w0 n hn ar ck now h1c (by omega)) (fun _ hb => hb.elim) gno rfl (fun v L' hp => ?_))
   obtain ⟨rfl, rfl⟩ := hp
   refine RV.s (Step.neq rfl rfl) rfl ?_
   refine RV.nil (KV.then_n (KV.e5 0 1 2 3 45 (CV.cond_f rfl (CV.skip (KV.then_n ?_)))))
   refine KV.e4 0 1 2 3 (CV.seq (CV.region ?_))
   refine RV.m rfl rfl (RV.m rfl rfl (RV.s (Step.nilCheck rfl) rfl (RV.s (Step.fieldAddr rfl (F151_5 _ _)) rfl ?_)))
   refine RV.op (OV.store 0 [_] #[_, _, _, _, _, _, _, _] I3 rfl rfl rfl rfl rfl (Nat.le_of_ble_eq_true rfl) (by simp [Value.oneCell']) rfl gno ?_)
   refine RV.nil (KV.then_n (KV.e3 0 2 3 (CV.seq (CV.region ?_))))
   refine RV.m rfl rfl (RV.s (Step.nilCheck rfl) rfl (RV.s (Step.fieldAddr rfl (F151_7 _ _)) rfl ?_))
   refine RV.op (OV.store 0 [_] #[_, _, _, _, _, _, _, _] I28 rfl rfl rfl rfl rfl (Nat.le_of_ble_eq_true rfl) (by simp [Value.oneCell']) rfl gno ?_)
   refine RV.nil (KV.then_n (KV.e3 0 2 3 (CV.seq (CV.seq (CV.region ?_)))))
   refine RV.m rfl rfl (RV.s (Step.nilCheck rfl) rfl (RV.s (Step.fieldAddr rfl (F151_2 _ _)) rfl (RV.s (Step.load Tryz.underlying75 rfl rfl (fun w h => h.cell 0 rfl rfl)) rfl (RV.m rfl rfl (RV.m rfl rfl (RV.m rfl rfl ?_))))))
   (first | refine RV.op (OV.step gno (Step.add rfl rfl (wU64 (by omega) (by omega))) rfl ?_) | refine RV.op (OV.step gno (Step.add rfl rfl rfl) rfl ?_))
   refine RV.op (OV.call [2, 2] (F := [_, _, _]) Tryz.func64 B64 N64 rfl rfl (fun w h => freeze_fn f fA fc es hl fk dl (now + to) now h1 (by omega) (by omega) (by omega)) (fun _ hb => hb.elim) gno rfl (fun v L' hp => ?_))
   obtain ⟨rfl, rfl⟩ := hp
   rcases ad_cases es (now + to) now with ⟨hal, e1, e2, e3⟩ | ⟨hal, e1, e2, e3⟩ | ⟨hal, e1, e2, e3⟩
   ·
    skip
    rw [e2, e3]
    refine RV.a rfl rfl ?_
    refine RV.nil (KV.then_n (KV.e3 0 2 11 (CV.seq (CV.region ?_))))
    refine RV.m rfl rfl (RV.s (Step.neq rfl rfl) rfl ?_)
    refine RV.nil (KV.then_n (KV.e4 0 2 11 63 (CV.cond_f rfl (CV.skip (KV.then_n ?_)))))
    refine KV.e2 0 2 (CV.seq (CV.region ?_))
    refine RV.m rfl rfl (RV.s (Step.nilCheck rfl) rfl (RV.s (Step.fieldAddr rfl (F151_4 _ _)) rfl ?_))
    refine RV.op (OV.store 0 [_] #[_, _, _, _, _, _, _, _] I3 rfl rfl rfl rfl rfl (Nat.le_of_ble_eq_true rfl) (by simp [Value.oneCell']) rfl gno ?_)
    refine RV.nil (KV.then_n (KV.e2 0 2 (CV.seq (CV.region ?_))))
    refine RV.m rfl rfl (RV.m rfl rfl ?_)
    refine RV.op (OV.call [0, 1, 0, 0, 0] (F := []) Tryz.func66 B66 N66 rfl rfl (fun w h => sfreeze_fn s w0 p f n true now sp tp mp bp oA oc sys la 0 fA fc es hl now (now + to) now (by omega) (by omega)) (fun _ hb => hb.elim) gno rfl (fun v L' hp => ?_))
    obtain ⟨rfl, q, Aq, cq, rest, rfl⟩ := hp
    refine RV.nil (KV.then_n (KV.env [] trivial (CV.seq (CV.region ?_))))
    refine RV.a rfl rfl ?_
    refine RV.nil (KV.then_n (KV.e1 8 (CV.ret ?_)))
    refine KV.sel [0, 0, 0, 0, 0, 0] [_, _, _, _, _, _] rfl ?_
    first | exact KV.ret1 rfl rfl _ (fun _ h => h) ⟨rfl, .inl ⟨hal, _, _, _, _, rfl⟩⟩ | exact KV.ret1 rfl rfl _ (fun _ h => h) ⟨rfl, .inr (.inl ⟨hal, rfl⟩)⟩ | exact KV.ret1 rfl rfl _ (fun _ h => h) ⟨rfl, .inr (.inr ⟨hal, rfl⟩)⟩
   ·
    skip
    rw [e2, e3]
    refine RV.a rfl rfl ?_
    refine RV.nil (KV.then_n (KV.e3 0 2 11 (CV.seq (CV.region ?_))))
    refine RV.m rfl rfl (RV.s (Step.neq rfl rfl) rfl ?_)
    refine RV.nil (KV.then_n (KV.e4 0 2 11 63 (CV.cond_t rfl (CV.seq (CV.region ?_)))))
    refine RV.m rfl rfl (RV.m rfl rfl (RV.m rfl rfl ?_))
    refine RV.op (OV.call [0, 1, 1, 1] (F := [_]) Tryz.func65 B65 N65 rfl rfl (fun w h => finish0_fn s w0 f n true now _ sp 1 sys la 0 fA fc es now (now + to) 14 now (Int.le_refl _) (by omega)) (fun _ hb => hb.elim) gno rfl (fun v L' hp => ?_))
    obtain ⟨rfl, rfl⟩ := hp
    refine RV.nil (KV.then_n (KV.env [] trivial (CV.seq (CV.region ?_))))
    refine RV.a rfl rfl ?_
    refine RV.nil (KV.then_n (KV.e1 8 (CV.ret (KV.then_ret ?_))))
    refine KV.sel [1, 1, 0, 0, 0] [_, _, _, _, _] rfl ?_
    first | exact KV.ret1 rfl rfl _ (fun _ h => h) ⟨rfl, .inl ⟨hal, _, _, _, _, rfl⟩⟩ | exact KV.ret1 rfl rfl _ (fun _ h => h) ⟨rfl, .inr (.inl ⟨hal, rfl⟩)⟩ | exact KV.ret1 rfl rfl _ (fun _ h => h) ⟨rfl, .inr (.inr ⟨hal, rfl⟩)⟩
   ·
    skip
    rw [e2, e3]
    refine RV.a rfl rfl ?_
    refine RV.nil (KV.then_n (KV.e3 0 2 11 (CV.seq (CV.region ?_))))
    refine RV.m rfl rfl (RV.s (Step.neq rfl rfl) rfl ?_)
    refine RV.nil (KV.then_n (KV.e4 0 2 11 63 (CV.cond_f rfl (CV.skip (KV.then_n ?_)))))
    refine KV.e2 0 2 (CV.seq (CV.region ?_))
    refine RV.m rfl rfl (RV.s (Step.nilCheck rfl) rfl (RV.s (Step.fieldAddr rfl (F151_4 _ _)) rfl ?_))
    refine RV.op (OV.store 0 [_] #[_, _, _, _, _, _, _, _] I3 rfl rfl rfl rfl rfl (Nat.le_of_ble_eq_true rfl) (by simp [Value.oneCell']) rfl gno ?_)
    refine RV.nil (KV.then_n (KV.e2 0 2 (CV.seq (CV.region ?_))))
    refine RV.m rfl rfl (RV.m rfl rfl ?_)
    refine RV.op (OV.call [0, 1, 0, 0, 0] (F := []) Tryz.func66 B66 N66 rfl rfl (fun w h => sfreeze1_fn s w0 p f n true now sp tp mp bp oA oc sys la 0 fA fc es hl now (now + to) now (by omega) (by omega)) (fun _ hb => hb.elim) gno rfl (fun v L' hp => ?_))
    obtain ⟨rfl, hp⟩ := hp
    rcases hp with ⟨hx, _⟩ | ⟨⟨_, hx⟩, _⟩ | ⟨_, rfl⟩
    ·
     exact absurd hx hal.1
    ·
     exact absurd hx hal.2
    refine RV.nil (KV.then_n (KV.env [] trivial (CV.seq (CV.region ?_))))
    refine RV.a rfl rfl ?_
    refine RV.nil (KV.then_n (KV.e1 8 (CV.ret ?_)))
    refine KV.sel [0, 0, 0, 0, 0] [_, _, _, _, _] rfl ?_
    first | exact KV.ret1 rfl rfl _ (fun _ h => h) ⟨rfl, .inl ⟨hal, _, _, _, _, rfl⟩⟩ | exact KV.ret1 rfl rfl _ (fun _ h => h) ⟨rfl, .inr (.inl ⟨hal, rfl⟩)⟩ | exact KV.ret1 rfl rfl _ (fun _ h => h) ⟨rfl, .inr (.inr ⟨hal, rfl⟩)⟩

set_option maxRecDepth 100000 in
set_option maxHeartbeats 1000000 in
theorem settle2_fn (s w0 p f : Nat) (n : Nat) (hn : n ≤ 32) (ar : Bool) (ck : Int) (sp tp mp bp : Option Addr) (oA : Option Addr) (oc : Nat) (sy la ea : Int) (fA : Option Addr) (fc : Nat) (es : List Int) (hl : es.length ≤ 64) (fk dl : Int) (now : Int) (h1 : fk ≤ now) (h1c : ck ≤ now) (h2 : now ≤ 1152921504606846976) {w : World} : Fx Tryz.prog 29 [.pointer (some ⟨s, 0, none⟩), .int .u64 now] w [Blk s (.cells (slC (some ⟨p, 0, none⟩) (some ⟨w0, 0, none⟩) (some ⟨f, 0, none⟩) sp 2 sy la ea) 151 (0, 0)), Blk w0 (.cells (srcA n ar ck) 188 (0, 0)), Blk p (.cells #[.slice none 0 0, .pointer tp, .pointer mp, .pointer bp, .slice oA 0 oc] 170 (0, 0)), Blk f (.cells (frC 1 fk dl fA es.length fc) 148 (0, 0)), OS 24 (intK .u64) fA fc es] no (fun v L => (allLe es (min now dl) es.length = true ∧ ∃ q A c rest, L = [Blk s (.cells (slC (some ⟨p, 0, none⟩) (some ⟨w0, 0, none⟩) (some ⟨f, 0, none⟩) (some ⟨q, 0, none⟩) 4 sy la ea) 151 (0, 0)), Blk w0 (.cells (srcA n ar now) 188 (0, 0)), Blk p (.cells #[.slice none 0 0, .pointer tp, .pointer mp, .pointer bp, .slice oA 0 oc] 170 (0, 0)), Blk f (.cells (frC 2 now dl fA es.length fc) 148 (0, 0)), OS 24 (intK .u64) fA fc es, Blk q (.cells (sqC A c 2 rest) 242 (0, 0))]) ∨ ((¬ allLe es (min now dl) es.length = true ∧ dl ≤ now) ∧ L = [Blk s (.cells (slC (some ⟨p, 0, none⟩) (some ⟨w0, 0, none⟩) (some ⟨f, 0, none⟩) sp 1 sy 14 ea) 151 (0, 0)), Blk w0 (.cells (srcA n false now) 188 (0, 0)), Blk p (.cells #[.slice none 0 0, .pointer tp, .pointer mp, .pointer bp, .slice oA 0 oc] 170 (0, 0)), Blk f (.cells (frC 0 now dl fA es.length fc) 148 (0, 0)), OS 24 (intK .u64) fA fc es]) ∨ ((¬ allLe es (min now dl) es.length = true ∧ ¬ dl ≤ now) ∧ L = [Blk s (.cells (slC (some ⟨p, 0, none⟩) (some ⟨w0, 0, none⟩) (some ⟨f, 0, none⟩) sp 2 sy la ea) 151 (0, 0)), Blk w0 (.cells (srcA n ar now) 188 (0, 0)), Blk p (.cells #[.slice none 0 0, .pointer tp, .pointer mp, .pointer bp, .slice oA 0 oc] 170 (0, 0)), Blk f (.cells (frC 1 now dl fA es.length fc) 148 (0, 0)), OS 24 (intK .u64) fA fc es])) := by
 refine Sv.Fx.body Tryz.func29 rfl T29 rfl ?_
 intro I hro hI
 refine KV.e2 0 1 (CV.seq (CV.region ?_))
 refine RV.m rfl rfl (RV.s (Step.nilCheck rfl) rfl (RV.s (Step.fieldAddr rfl (F151_1 _ _)) rfl (RV.s (Step.load Tryz.underlying74 rfl rfl (fun w h => h.cell 0 rfl rfl)) rfl (RV.m rfl rfl ?_))))
 refine RV.op (OV.call [1] (F := [_, _, _, _]) Tryz.func67 B67 N67 rfl rfl (fun w h => advanceS_fn w0 n hn ar ck now h1c h2) (fun _ hb => hb.elim) gno rfl (fun v L' hp => ?_))
 obtain ⟨rfl, rfl⟩ := hp
 refine RV.nil (KV.then_n (KV.e2 0 1 (CV.seq (CV.region ?_))))
 refine RV.m rfl rfl (RV.s (Step.nilCheck rfl) rfl (RV.s (Step.fieldAddr rfl (F151_4 _ _)) rfl (RV.s (Step.load Tryz.underlying3 rfl rfl (fun w h => h.cell 0 rfl rfl)) rfl ?_)))
 refine RV.nil (KV.then_n (KV.e3 0 1 13 (CV.block (CV.seq (CV.region ?_)))))
 refine RV.s (Step.eql rfl rfl) rfl (RV.a rfl rfl ?_)
 refine RV.nil (KV.then_n (KV.e4 0 1 13 14 (CV.cond_t rfl (CV.seq (CV.region ?_)))))
 refine RV.m rfl rfl (RV.s (Step.nilCheck rfl) rfl (RV.s (Step.fieldAddr rfl (F151_1 _ _)) rfl (RV.s (Step.load Tryz.underlying74 rfl rfl (fun w h => h.cell 0 rfl rfl)) rfl ?_)))
 refine RV.op (OV.call [] (F := [_, _, _, _, _]) Tryz.func68 B68 N68 rfl rfl (fun w h => mustAbort_fn w0 (h.blk 4 rfl)) (fun _ hb => hb.elim) gno rfl (fun v L' hp => ?_))
 obtain ⟨rfl, rfl⟩ := hp
 simp only [List.append_nil]
 refine RV.nil (KV.then_n (KV.e3 0 1 20 (CV.cond_f rfl (CV.region ?_))))
 refine RV.m rfl rfl (RV.m rfl rfl ?_)
 refine RV.op (OV.call [0, 3, 0, 0, 0] (F := []) Tryz.func66 B66 N66 rfl rfl (fun w h => sfreeze1_fn s w0 p f n ar now sp tp mp bp oA oc sy la ea fA fc es hl fk dl now h1 h2) (fun _ hb => hb.elim) gno rfl (fun v L' hp => ?_))
 obtain ⟨rfl, hp⟩ := hp
 refine RV.nil (KV.block_n ?_)
 exact KV.ret0 rfl _ (fun _ h => h) hp

set_option maxRecDepth 100000 in
set_option maxHeartbeats 1000000 in
theorem settle1_fn (s w0 : Nat) (n : Nat) (hn : n ≤ 32) (ar : Bool) (ck : Int) (pp fp sp : Option Addr) (sy la ea : Int) (now : Int) (h1c : ck ≤ now) (h2 : now ≤ 1152921504606846976) {w : World} : Fx Tryz.prog 29 [.pointer (some ⟨s, 0, none⟩), .int .u64 now] w [Blk s (.cells (slC pp (some ⟨w0, 0, none⟩) fp sp 1 sy la ea) 151 (0, 0)), Blk w0 (.cells (srcA n ar ck) 188 (0, 0))] no (fun v L => L = [Blk s (.cells (slC pp (some ⟨w0, 0, none⟩) fp sp 1 sy la ea) 151 (0, 0)), Blk w0 (.cells (srcA n ar now) 188 (0, 0))]) := by
 refine Sv.Fx.body Tryz.func29 rfl T29 rfl ?_
 intro I hro hI
 refine KV.e2 0 1 (CV.seq (CV.region ?_))
 refine RV.m rfl rfl (RV.s (Step.nilCheck rfl) rfl (RV.s (Step.fieldAddr rfl (F151_1 _ _)) rfl (RV.s (Step.load Tryz.underlying74 rfl rfl (fun w h => h.cell 0 rfl rfl)) rfl (RV.m rfl rfl ?_))))
 refine RV.op (OV.call [1] (F := [_]) Tryz.func67 B67 N67 rfl rfl (fun w h => advanceS_fn w0 n hn ar ck now h1c h2) (fun _ hb => hb.elim) gno rfl (fun v L' hp => ?_))
 obtain ⟨rfl, rfl⟩ := hp
 refine RV.nil (KV.then_n (KV.e2 0 1 (CV.seq (CV.region ?_))))
 refine RV.m rfl rfl (RV.s (Step.nilCheck rfl) rfl (RV.s (Step.fieldAddr rfl (F151_4 _ _)) rfl (RV.s (Step.load Tryz.underlying3 rfl rfl (fun w h => h.cell 0 rfl rfl)) rfl ?_)))
 refine RV.nil (KV.then_n (KV.e3 0 1 13 (CV.block (CV.seq (CV.region ?_)))))
 refine RV.s (Step.eql rfl rfl) rfl (RV.a rfl rfl ?_)
 refine RV.nil (KV.then_n (KV.e4 0 1 13 14 (CV.cond_f rfl (CV.seq (CV.region ?_)))))
 refine RV.s (Step.eql rfl rfl) rfl (RV.a rfl rfl ?_)
 refine RV.nil (KV.then_n (KV.e3 0 1 27 (CV.cond_f rfl (CV.skip (KV.block_n ?_)))))
 refine KV.sel [0, 0] [_, _] rfl ?_
 exact KV.ret0 rfl _ (fun _ h => h) rfl

set_option maxRecDepth 100000 in
set_option maxHeartbeats 1000000 in
theorem settle4_fn (s w0 : Nat) (n : Nat) (hn : n ≤ 32) (ar : Bool) (ck : Int) (pp fp sp : Option Addr) (sy la ea : Int) (now : Int) (h1c : ck ≤ now) (h2 : now ≤ 1152921504606846976) {w : World} : Fx Tryz.prog 29 [.pointer (some ⟨s, 0, none⟩), .int .u64 now] w [Blk s (.cells (slC pp (some ⟨w0, 0, none⟩) fp sp 4 sy la ea) 151 (0, 0)), Blk w0 (.cells (srcA n ar ck) 188 (0, 0))] no (fun v L => L = [Blk s (.cells (slC pp (some ⟨w0, 0, none⟩) fp sp 4 sy la ea) 151 (0, 0)), Blk w0 (.cells (srcA n ar now) 188 (0, 0))]) := by
 refine Sv.Fx.body Tryz.func29 rfl T29 rfl ?_
 intro I hro hI
 refine KV.e2 0 1 (CV.seq (CV.region ?_))
 refine RV.m rfl rfl (RV.s (Step.nilCheck rfl) rfl (RV.s (Step.fieldAddr rfl (F151_1 _ _)) rfl (RV.s (Step.load Tryz.underlying74 rfl rfl (fun w h => h.cell 0 rfl rfl)) rfl (RV.m rfl rfl ?_))))
 refine RV.op (OV.call [1] (F := [_]) Tryz.func67 B67 N67 rfl rfl (fun w h => advanceS_fn w0 n hn ar ck now h1c h2) (fun _ hb => hb.elim) gno rfl (fun v L' hp => ?_))
 obtain ⟨rfl, rfl⟩ := hp
 refine RV.nil (KV.then_n (KV.e2 0 1 (CV.seq (CV.region ?_))))
 refine RV.m rfl rfl (RV.s (Step.nilCheck rfl) rfl (RV.s (Step.fieldAddr rfl (F151_4 _ _)) rfl (RV.s (Step.load Tryz.underlying3 rfl rfl (fun w h => h.cell 0 rfl rfl)) rfl ?_)))
 refine RV.nil (KV.then_n (KV.e3 0 1 13 (CV.block (CV.seq (CV.region ?_)))))
 refine RV.s (Step.eql rfl rfl) rfl (RV.a rfl rfl ?_)
 refine RV.nil (KV.then_n (KV.e4 0 1 13 14 (CV.cond_f rfl (CV.seq (CV.region ?_)))))
 refine RV.s (Step.eql rfl rfl) rfl (RV.a rfl rfl ?_)
 refine RV.nil (KV.then_n (KV.e3 0 1 27 (CV.cond_t rfl (CV.seq (CV.region ?_)))))
 refine RV.m rfl rfl (RV.s (Step.nilCheck rfl) rfl (RV.s (Step.fieldAddr rfl (F151_1 _ _)) rfl (RV.s (Step.load Tryz.underlying74 rfl rfl (fun w h => h.cell 0 rfl rfl)) rfl ?_)))
 refine RV.op (OV.call [] (F := [_, _]) Tryz.func68 B68 N68 rfl rfl (fun w h => mustAbort_fn w0 (h.blk 1 rfl)) (fun _ hb => hb.elim) gno rfl (fun v L' hp => ?_))
 obtain ⟨rfl, rfl⟩ := hp
 simp only [List.append_nil]
 refine RV.nil (KV.then_n (KV.e3 0 1 33 (CV.cond_f rfl (CV.skip (KV.block_n ?_)))))
 refine KV.sel [0, 0] [_, _] rfl ?_
 exact KV.ret0 rfl _ (fun _ h => h) rfl
end Go.Proofs.YtdfkpdcpegcieaaGreatDoor
