/-
 Walks, part 9.
-/
import Derived.Test.YtdfkpdcpegcieaaGreatDoorTabA
import Derived.Test.YtdfkpdcpegcieaaGreatDoorW8
set_option linter.unusedSimpArgs false
set_option linter.unusedVariables false
namespace Go.Proofs.YtdfkpdcpegcieaaGreatDoor
open Go.Sv Go.Perf Go.Ctl
set_option maxRecDepth 100000 in
theorem srcIx : ∀ (i : Nat), i < 32 → ∀ (w : World), (Instr.index 186 (.agg src96.toArray) (.int .i64 i)).run Tryz.prog w = .ok (.agg #[.bool false, .bool false, .int .u64 0]) w
 | 0, _, _ => by kernel_rfl
 | 1, _, _ => by kernel_rfl
 | 2, _, _ => by kernel_rfl
 | 3, _, _ => by kernel_rfl
 | 4, _, _ => by kernel_rfl
 | 5, _, _ => by kernel_rfl
 | 6, _, _ => by kernel_rfl
 | 7, _, _ => by kernel_rfl
 | 8, _, _ => by kernel_rfl
 | 9, _, _ => by kernel_rfl
 | 10, _, _ => by kernel_rfl
 | 11, _, _ => by kernel_rfl
 | 12, _, _ => by kernel_rfl
 | 13, _, _ => by kernel_rfl
 | 14, _, _ => by kernel_rfl
 | 15, _, _ => by kernel_rfl
 | 16, _, _ => by kernel_rfl
 | 17, _, _ => by kernel_rfl
 | 18, _, _ => by kernel_rfl
 | 19, _, _ => by kernel_rfl
 | 20, _, _ => by kernel_rfl
 | 21, _, _ => by kernel_rfl
 | 22, _, _ => by kernel_rfl
 | 23, _, _ => by kernel_rfl
 | 24, _, _ => by kernel_rfl
 | 25, _, _ => by kernel_rfl
 | 26, _, _ => by kernel_rfl
 | 27, _, _ => by kernel_rfl
 | 28, _, _ => by kernel_rfl
 | 29, _, _ => by kernel_rfl
 | 30, _, _ => by kernel_rfl
 | 31, _, _ => by kernel_rfl
 | n + 32, h, _ => by omega

set_option maxRecDepth 100000 in
set_option maxHeartbeats 1000000 in
theorem srcNew_fn (n : Nat) (hn : n ≤ 32) {w : World} : Fx Tryz.prog 34 [.int .i64 n] w [] no (fun v L => ∃ b, v = .tuple #[.pointer (some ⟨b, 0, none⟩), .int .i64 0] ∧ L = [Blk b (.cells (srcA n false 0) 188 (0, 0))]) := by
 refine Sv.Fx.body Tryz.func34 rfl T34 rfl ?_
 intro I hro hI
 refine KV.e1 0 (CV.seq (CV.region ?_))
 refine RV.a rfl rfl (RV.a rfl rfl ?_)
 refine RV.nil (KV.then_n (KV.e1 0 (CV.seq (CV.seq (CV.region ?_)))))
 refine RV.m rfl rfl ?_
 refine RV.op (OV.split gno (Step.lss rfl rfl) rfl (fun e1 => ?_) (fun e1 => ?_))
 ·
  exfalso; omega
 ·
  refine RV.m rfl rfl (RV.gw rfl (Step.move rfl) rfl ?_)
  refine RV.op (OV.split (gyes rfl) (Step.gtr rfl rfl) rfl (fun e2 => ?_) (fun e2 => ?_))
  ·
   exfalso; omega
  ·
   refine RV.s (Step.pick_f rfl rfl) rfl ?_
   refine RV.nil (KV.then_n (KV.e2 0 9 (CV.cond_f rfl (CV.skip (KV.then_n ?_)))))
   refine KV.e1 0 (CV.seq (CV.region ?_))
   refine RV.m rfl rfl (RV.s (Step.build rfl (Bd188_1 _)) rfl ?_)
   refine RV.op (OV.box (t := 188) #[_, _, _, _, _, _, _, _, _, _, _, _, _, _, _, _, _, _, _, _, _, _, _, _, _, _, _, _, _, _, _, _, _, _, _, _, _, _, _, _, _, _, _, _, _, _, _, _, _, _, _, _, _, _, _, _, _, _, _, _, _, _, _, _, _, _, _, _, _, _, _, _, _, _, _, _, _, _, _, _, _, _, _, _, _, _, _, _, _, _, _, _, _, _, _, _, _, _, _, _, _, _, _] rfl rfl gno rfl (fun b3_2 => ?_))
   refine RV.a rfl rfl (RV.a rfl rfl ?_)
   refine RV.nil (KV.then_n (KV.e2 2 3 (CV.ret ?_)))
   refine KV.sel [0] [_] rfl ?_
   exact KV.ret2 rfl rfl rfl _ (fun _ h => h) ⟨_, rfl, rfl⟩

set_option maxRecDepth 100000 in
set_option maxHeartbeats 1000000 in
theorem counts_fn (b : Nat) {n : Int} {ar : Bool} {ck : Int} {fz : Nat × Nat} {w : World} (hb : w.heap[b]? = some (.cells (srcA n ar ck) 188 fz)) : Fx Tryz.prog 62 [.pointer (some ⟨b, 0, none⟩)] w [] no (fun v L => v = .tuple #[.int .i64 0, .int .i64 0] ∧ L = []) := by
 refine Sv.Fx.body Tryz.func62 rfl T62 rfl ?_
 intro I hro hI
 refine KV.e1 0 (CV.seq (CV.region ?_))
 refine RV.a rfl rfl (RV.a rfl rfl ?_)
 refine RV.nil (KV.then_n (KV.e1 0 (CV.seq (CV.region ?_))))
 refine RV.a rfl rfl ?_
 refine RV.nil (KV.then_n (KV.e2 0 4 (CV.seq (CV.seq (CV.region ?_)))))
 refine RV.m rfl rfl (RV.s (Step.nilCheck rfl) rfl (RV.s (Step.fieldAddr rfl (F188_0 _ _)) rfl (RV.s (Step.loadN _ Tryz.underlying186 rfl I186 rfl rfl (fun w h => cells_of (h.ro hb (hI b)) 0 src96 rfl)) rfl (RV.m rfl rfl ?_))))
 refine RV.nil (KV.then_n (KV.e4 0 4 10 11 (CV.block ?_)))
 refine KV.sel [] [] rfl ?_
 refine CV.loopI (fun (i : Nat) => i ≤ 32) (fun (i : Nat) => 32 - i) (fun (i : Nat) => [(0, .pointer (some ⟨b, 0, none⟩)), (4, .int .i64 0), (10, .agg src96.toArray), (11, .int .i64 i)]) (fun (i : Nat) => Hp I w []) (0) (Nat.zero_le _) ⟨rfl, rfl, rfl, rfl, trivial⟩ (fun _ h => h) ?_
 intro i hinv
 refine CV.seq (CV.region ?_)
 refine RV.op (OV.split gno (Step.lss rfl rfl) rfl (fun cc1 => ?_) (fun cc1 => ?_))
 ·
  refine RV.nil (KV.then_n (KV.e5 0 4 10 11 12 (CV.seq (CV.cond_t rfl (CV.skip ?_)))))
  refine KV.then_n (KV.e4 0 4 10 11 (CV.seq (CV.block (CV.seq (CV.region ?_)))))
  refine RV.s (Step.index rfl rfl (srcIx i (by omega))) rfl ?_
  refine RV.op (OV.alloc #[.bool false, .bool false, .int .u64 0] I185 rfl gno rfl (fun b4_1 => ?_))
  refine RV.op (OV.store 0 [_, _, _] #[_, _, _] I185 rfl rfl rfl rfl rfl (Nat.le_of_ble_eq_true rfl) (by simp [Value.oneCell']) rfl gno ?_)
  refine RV.nil (KV.then_n (KV.e5 0 4 6 10 11 (CV.seq (CV.region ?_))))
  refine RV.s (Step.fieldAddr rfl (F185_0 _ _)) rfl (RV.s (Step.load Tryz.underlying4 rfl rfl (fun w h => h.cell 0 rfl rfl)) rfl ?_)
  refine RV.nil (KV.then_n (KV.e5 0 4 10 11 15 (CV.cond_f rfl (CV.skip (KV.block_n ?_)))))
  refine KV.then_n (KV.e4 0 4 10 11 (CV.region ?_))
  (first | refine RV.op (OV.step gno (Step.add rfl rfl (wI64 (by omega) (by omega))) rfl ?_) | refine RV.op (OV.step gno (Step.add rfl rfl rfl) rfl ?_))
  refine RV.m rfl rfl ?_
  refine RV.nil (KV.then_n (KV.e4 0 4 10 11 ?_))
  refine KV.sel [] [] rfl ?_
  exact KV.loopI (z := i) (i + 1) (by omega) (by omega) ⟨rfl, rfl, rfl, rfl, trivial⟩ (fun _ h => h)
 ·
  refine RV.nil (KV.then_n (KV.e5 0 4 10 11 12 (CV.seq (CV.cond_f rfl (CV.exit ?_)))))
  refine KV.then_exit (KV.then_exit (KV.block_hit (KV.then_n (KV.e2 0 4 (CV.seq ?_)))))
  refine CV.region ?_
  refine RV.m rfl rfl (RV.s (Step.nilCheck rfl) rfl (RV.s (Step.fieldAddr rfl (F188_4 _ _)) rfl (RV.s (Step.load Tryz.underlying3 rfl rfl (fun w h => (cell_of (h.ro hb (hI b)) 99).trans rfl)) rfl (RV.m rfl rfl (RV.a rfl rfl (RV.a rfl rfl ?_))))))
  refine RV.nil (KV.then_n (KV.e2 2 3 (CV.ret ?_)))
  refine KV.sel [] [] rfl ?_
  exact KV.ret2 rfl rfl rfl _ (fun _ h => h) ⟨rfl, rfl⟩

set_option maxRecDepth 100000 in
set_option maxHeartbeats 1000000 in
theorem permitted_fn (b : Nat) {n : Int} {ar : Bool} {ck : Int} {fz : Nat × Nat} {w : World} (hb : w.heap[b]? = some (.cells (srcA n ar ck) 188 fz)) (now : Int) (h1 : ck ≤ now) (h2 : now ≤ 1152921504606846976) : Fx Tryz.prog 91 [.pointer (some ⟨b, 0, none⟩), .int .u64 now] w [] no (fun v L => v = .bool true ∧ L = []) := by
 refine Sv.Fx.body Tryz.func91 rfl T91 rfl ?_
 intro I hro hI
 refine KV.e2 0 1 (CV.seq (CV.region ?_))
 refine RV.a rfl rfl ?_
 refine RV.nil (KV.then_n (KV.e2 0 1 (CV.seq (CV.region ?_))))
 refine RV.m rfl rfl (RV.m rfl rfl (RV.s (Step.nilCheck rfl) rfl (RV.s (Step.fieldAddr rfl (F188_7 _ _)) rfl (RV.s (Step.load Tryz.underlying24 rfl rfl (fun w h => (cell_of (h.ro hb (hI b)) 102).trans rfl)) rfl ?_))))
 refine RV.op (OV.split gno (Step.geq rfl rfl) rfl (fun e1 => ?_) (fun e1 => ?_))
 ·
  refine RV.m rfl rfl (RV.gw rfl (Step.move rfl) rfl ?_)
  refine RV.op (OV.split (gyes rfl) (Step.leq rfl rfl) rfl (fun e2 => ?_) (fun e2 => ?_))
  ·
   refine RV.s (Step.pick_t rfl rfl) rfl (RV.a rfl rfl ?_)
   refine RV.nil (KV.then_n (KV.e1 4 (CV.ret ?_)))
   refine KV.sel [] [] rfl ?_
   exact KV.ret1 rfl rfl _ (fun _ h => h) ⟨rfl, rfl⟩
  ·
   exfalso; omega
 ·
  exfalso; omega

set_option maxRecDepth 100000 in
set_option maxHeartbeats 1000000 in
theorem advance_fn (b n : Nat) (hn : n ≤ 32) (ar : Bool) (ck now : Int) {w : World} : Fx Tryz.prog 92 [.pointer (some ⟨b, 0, none⟩), .int .u64 now] w [Blk b (.cells (srcA n ar ck) 188 (0, 0))] no (fun v L => v = .tuple #[] ∧ L = [Blk b (.cells (srcA n ar now) 188 (0, 0))]) := by
 refine Sv.Fx.body Tryz.func92 rfl T92 rfl ?_
 intro I hro hI
 refine KV.e2 0 1 (CV.seq (CV.region ?_))
 refine RV.m rfl rfl (RV.m rfl rfl (RV.s (Step.nilCheck rfl) rfl (RV.s (Step.fieldAddr rfl (F188_7 _ _)) rfl ?_)))
 refine RV.op (OV.store 0 [_] #[_, _, _, _, _, _, _, _, _, _, _, _, _, _, _, _, _, _, _, _, _, _, _, _, _, _, _, _, _, _, _, _, _, _, _, _, _, _, _, _, _, _, _, _, _, _, _, _, _, _, _, _, _, _, _, _, _, _, _, _, _, _, _, _, _, _, _, _, _, _, _, _, _, _, _, _, _, _, _, _, _, _, _, _, _, _, _, _, _, _, _, _, _, _, _, _, _, _, _, _, _, _, _] I24 rfl rfl rfl rfl rfl (Nat.le_of_ble_eq_true rfl) (by simp [Value.oneCell']) rfl gno ?_)
 refine RV.nil (KV.then_n (KV.e2 0 1 (CV.seq (CV.seq (CV.region ?_)))))
 refine RV.m rfl rfl (RV.s (Step.nilCheck rfl) rfl (RV.s (Step.fieldAddr rfl (F188_1 _ _)) rfl (RV.s (Step.load Tryz.underlying3 rfl rfl (fun w h => h.cell 0 rfl rfl)) rfl (RV.m rfl rfl ?_))))
 refine RV.nil (KV.then_n (KV.e4 0 1 13 14 (CV.block ?_)))
 refine KV.sel [0] [_] rfl ?_
 refine CV.loopI (fun (i : Nat) => i ≤ n) (fun (i : Nat) => n - i) (fun (i : Nat) => [(0, .pointer (some ⟨b, 0, none⟩)), (1, .int .u64 now), (13, .int .i64 n), (14, .int .i64 i)]) (fun (i : Nat) => Hp I w [Blk b (.cells (srcA n ar now) 188 (0, 0))]) (0) (Nat.zero_le _) ⟨rfl, rfl, rfl, rfl, trivial⟩ (fun _ h => h) ?_
 intro i hinv
 refine CV.seq (CV.region ?_)
 refine RV.op (OV.split gno (Step.lss rfl rfl) rfl (fun cc1 => ?_) (fun cc1 => ?_))
 ·
  refine RV.nil (KV.then_n (KV.e5 0 1 13 14 15 (CV.seq (CV.cond_t rfl (CV.skip ?_)))))
  refine KV.then_n (KV.e4 0 1 13 14 (CV.seq (CV.block (CV.seq (CV.region ?_)))))
  refine RV.m rfl rfl (RV.a rfl rfl ?_)
  refine RV.nil (KV.then_n (KV.e5 0 1 4 13 14 (CV.seq (CV.region ?_))))
  refine RV.m rfl rfl (RV.m rfl rfl (RV.s (Step.nilCheck rfl) rfl (RV.s (Step.fieldAddr rfl (F188_0 _ _)) rfl ?_)))
  refine RV.s (Step.idxArr Tryz.underlying186 I185 rfl rfl _ rfl (by omega)) rfl ?_
  refine RV.s (Step.loadN _ Tryz.underlying185 rfl I185 rfl rfl (fun w h => h.cellsO 0 (0 + i * 3) [.bool false, .bool false, .int .u64 0] rfl (by rw [Nat.zero_add]; exact src_get n ar now i (by omega)))) rfl ?_
  refine RV.op (OV.alloc #[.bool false, .bool false, .int .u64 0] I185 rfl gno rfl (fun b4_6 => ?_))
  refine RV.op (OV.store 1 [_, _, _] #[_, _, _] I185 rfl rfl rfl rfl rfl (Nat.le_of_ble_eq_true rfl) (by simp [Value.oneCell']) rfl gno ?_)
  refine RV.nil (KV.then_n (KV.e6 0 1 4 5 13 14 (CV.seq (CV.region ?_))))
  refine RV.s (Step.fieldAddr rfl (F185_0 _ _)) rfl (RV.s (Step.load Tryz.underlying4 rfl rfl (fun w h => h.cell 1 rfl rfl)) rfl (RV.m rfl rfl (RV.k rfl rfl (RV.k rfl rfl (RV.s (Step.pick_f rfl rfl) rfl (RV.m rfl rfl (RV.k rfl rfl ?_)))))))
  refine RV.k rfl rfl (RV.k rfl rfl (RV.k rfl rfl (RV.s (Step.pick_f rfl rfl) rfl ?_)))
  refine RV.nil (KV.then_n (KV.e6 0 1 4 13 14 34 (CV.cond_f rfl (CV.skip (KV.block_n ?_)))))
  refine KV.then_n (KV.e4 0 1 13 14 (CV.region ?_))
  (first | refine RV.op (OV.step gno (Step.add rfl rfl (wI64 (by omega) (by omega))) rfl ?_) | refine RV.op (OV.step gno (Step.add rfl rfl rfl) rfl ?_))
  refine RV.m rfl rfl ?_
  refine RV.nil (KV.then_n (KV.e4 0 1 13 14 ?_))
  refine KV.sel [0] [_] rfl ?_
  exact KV.loopI (z := i) (i + 1) (by omega) (by omega) ⟨rfl, rfl, rfl, rfl, trivial⟩ (fun _ h => h)
 ·
  refine RV.nil (KV.then_n (KV.e5 0 1 13 14 15 (CV.seq (CV.cond_f rfl (CV.exit ?_)))))
  refine KV.then_exit (KV.then_exit (KV.block_hit (KV.then_n (KV.e2 0 1 (CV.seq ?_)))))
  refine CV.region ?_
  refine RV.m rfl rfl (RV.s (Step.nilCheck rfl) rfl (RV.s (Step.fieldAddr rfl (F188_2 _ _)) rfl (RV.s (Step.load Tryz.underlying4 rfl rfl (fun w h => h.cell 0 rfl rfl)) rfl (RV.m rfl rfl (RV.k rfl rfl (RV.k rfl rfl (RV.k rfl rfl ?_)))))))
  refine RV.k rfl rfl (RV.k rfl rfl (RV.k rfl rfl (RV.s (Step.pick_f rfl rfl) rfl ?_)))
  refine RV.nil (KV.then_n (KV.e2 0 50 (CV.cond_f rfl (CV.skip ?_))))
  refine KV.sel [0] [_] rfl ?_
  exact KV.ret0 rfl _ (fun _ h => h) ⟨rfl, rfl⟩

set_option maxRecDepth 100000 in
set_option maxHeartbeats 1000000 in
theorem mustAbort_fn (b : Nat) {n : Int} {ar : Bool} {ck : Int} {fz : Nat × Nat} {w : World} (hb : w.heap[b]? = some (.cells (srcA n ar ck) 188 fz)) : Fx Tryz.prog 68 [.pointer (some ⟨b, 0, none⟩)] w [] no (fun v L => v = .bool false ∧ L = []) := by
 refine Sv.Fx.body Tryz.func68 rfl T68 rfl ?_
 intro I hro hI
 refine KV.e1 0 (CV.seq (CV.region ?_))
 refine RV.a rfl rfl ?_
 refine RV.nil (KV.then_n (KV.e1 0 (CV.seq (CV.region ?_))))
 refine RV.m rfl rfl ?_
 refine RV.op (OV.call [] (F := []) Tryz.func62 B62 N62 rfl rfl (fun w h => counts_fn b (h.ro hb (hI b))) (fun _ hb => hb.elim) gno rfl (fun v L' hp => ?_))
 obtain ⟨rfl, rfl⟩ := hp
 simp only [List.append_nil]
 refine RV.m rfl rfl (RV.s (Step.extract0 rfl rfl) rfl (RV.s (Step.extract0 rfl rfl) rfl (RV.a rfl rfl (RV.a rfl rfl ?_))))
 refine RV.nil (KV.then_n (KV.e3 0 3 4 (CV.seq (CV.region ?_))))
 refine RV.m rfl rfl (RV.s (Step.nilCheck rfl) rfl (RV.s (Step.fieldAddr rfl (F188_5 _ _)) rfl (RV.s (Step.load Tryz.underlying4 rfl rfl (fun w h => (cell_of (h.ro hb (hI b)) 100).trans rfl)) rfl (RV.m rfl rfl ?_))))
 refine KV.cases 14 rfl (fun cc1 => ?_) (fun cc1 => ?_)
 ·
  refine RV.gw rfl (Step.move rfl) rfl (RV.gw rfl (Step.move rfl) rfl (RV.gw rfl (Step.nilCheck rfl) rfl (RV.gw rfl (Step.fieldAddr rfl (F188_6 _ _)) rfl (RV.gw rfl (Step.load Tryz.underlying3 rfl rfl (fun w h => (cell_of (h.ro hb (hI b)) 101).trans rfl)) rfl (RV.gw rfl (Step.neq rfl rfl) rfl (RV.gw rfl (Step.move rfl) rfl (RV.gw rfl (Step.move rfl) rfl ?_)))))))
  refine RV.gw rfl (Step.gtr rfl rfl) rfl (RV.gw rfl (Step.pick_f rfl rfl) rfl (RV.s (Step.pick_t rfl rfl) rfl (RV.a rfl rfl ?_)))
  refine RV.nil (KV.then_n (KV.e1 2 (CV.ret ?_)))
  refine KV.sel [] [] rfl ?_
  exact KV.ret1 rfl rfl _ (fun _ h => h) ⟨rfl, rfl⟩
 ·
  refine RV.k rfl rfl (RV.k rfl rfl (RV.k rfl rfl (RV.k rfl rfl (RV.k rfl rfl (RV.k rfl rfl (RV.k rfl rfl ?_))))))
  refine RV.op (OV.skipU rfl rfl ?_)
  refine RV.op (OV.skipU rfl rfl ?_)
  refine RV.k rfl rfl (RV.s (Step.pick_f rfl rfl) rfl (RV.a rfl rfl ?_))
  refine RV.nil (KV.then_n (KV.e1 2 (CV.ret ?_)))
  refine KV.sel [] [] rfl ?_
  exact KV.ret1 rfl rfl _ (fun _ h => h) ⟨rfl, rfl⟩

set_option maxRecDepth 100000 in
set_option maxHeartbeats 1000000 in
theorem arm_fn (b n : Nat) (hn : n ≤ 32) (ar : Bool) (ck : Int) (now : Int) (h1 : ck ≤ now) (h2 : now ≤ 1152921504606846976) {w : World} : Fx Tryz.prog 63 [.pointer (some ⟨b, 0, none⟩), .int .i64 0, .int .u64 now] w [Blk b (.cells (srcA n ar ck) 188 (0, 0))] no (fun v L => v = .int .i64 0 ∧ L = [Blk b (.cells (srcA n true now) 188 (0, 0))]) := by
 refine Sv.Fx.body Tryz.func63 rfl T63 rfl ?_
 intro I hro hI
 refine KV.e3 0 1 2 (CV.seq (CV.region ?_))
 refine RV.a rfl rfl ?_
 refine RV.nil (KV.then_n (KV.e3 0 1 2 (CV.seq (CV.seq (CV.region ?_)))))
 refine RV.m rfl rfl (RV.m rfl rfl ?_)
 refine RV.op (OV.call [] (F := [_]) Tryz.func91 B91 N91 rfl rfl (fun w h => permitted_fn b (h.blk 0 rfl) now h1 h2) (fun _ hb => hb.elim) gno rfl (fun v L' hp => ?_))
 obtain ⟨rfl, rfl⟩ := hp
 simp only [List.append_nil]
 refine RV.s (Step.not rfl) rfl ?_
 refine RV.nil (KV.then_n (KV.e4 0 1 2 13 (CV.cond_f rfl (CV.skip (KV.then_n ?_)))))
 refine KV.e3 0 1 2 (CV.seq (CV.region ?_))
 refine RV.m rfl rfl (RV.s (Step.nilCheck rfl) rfl (RV.s (Step.loadN _ Tryz.underlying188 rfl I188 rfl rfl (fun w h => h.cellsO 0 0 (srcA n ar ck).toList rfl rfl)) rfl ?_))
 refine RV.op (OV.alloc #[.bool false, .bool false, .int .u64 0, .bool false, .bool false, .int .u64 0, .bool false, .bool false, .int .u64 0, .bool false, .bool false, .int .u64 0, .bool false, .bool false, .int .u64 0, .bool false, .bool false, .int .u64 0, .bool false, .bool false, .int .u64 0, .bool false, .bool false, .int .u64 0, .bool false, .bool false, .int .u64 0, .bool false, .bool false, .int .u64 0, .bool false, .bool false, .int .u64 0, .bool false, .bool false, .int .u64 0, .bool false, .bool false, .int .u64 0, .bool false, .bool false, .int .u64 0, .bool false, .bool false, .int .u64 0, .bool false, .bool false, .int .u64 0, .bool false, .bool false, .int .u64 0, .bool false, .bool false, .int .u64 0, .bool false, .bool false, .int .u64 0, .bool false, .bool false, .int .u64 0, .bool false, .bool false, .int .u64 0, .bool false, .bool false, .int .u64 0, .bool false, .bool false, .int .u64 0, .bool false, .bool false, .int .u64 0, .bool false, .bool false, .int .u64 0, .bool false, .bool false, .int .u64 0, .bool false, .bool false, .int .u64 0, .bool false, .bool false, .int .u64 0, .bool false, .bool false, .int .u64 0, .bool false, .bool false, .int .u64 0, .bool false, .bool false, .int .u64 0, .bool false, .bool false, .int .u64 0, .int .i64 0, .bool false, .int .u64 0, .int .i64 0, .bool false, .int .i64 0, .int .u64 0] I188 rfl gno rfl (fun b3_3 => ?_))
 refine RV.op (OV.store 1 [_, _, _, _, _, _, _, _, _, _, _, _, _, _, _, _, _, _, _, _, _, _, _, _, _, _, _, _, _, _, _, _, _, _, _, _, _, _, _, _, _, _, _, _, _, _, _, _, _, _, _, _, _, _, _, _, _, _, _, _, _, _, _, _, _, _, _, _, _, _, _, _, _, _, _, _, _, _, _, _, _, _, _, _, _, _, _, _, _, _, _, _, _, _, _, _, _, _, _, _, _, _, _] #[_, _, _, _, _, _, _, _, _, _, _, _, _, _, _, _, _, _, _, _, _, _, _, _, _, _, _, _, _, _, _, _, _, _, _, _, _, _, _, _, _, _, _, _, _, _, _, _, _, _, _, _, _, _, _, _, _, _, _, _, _, _, _, _, _, _, _, _, _, _, _, _, _, _, _, _, _, _, _, _, _, _, _, _, _, _, _, _, _, _, _, _, _, _, _, _, _, _, _, _, _, _, _] I188 rfl rfl rfl rfl rfl (Nat.le_of_ble_eq_true rfl) (by simp [Value.oneCell']) rfl gno ?_)
 refine RV.nil (KV.then_n (KV.e4 0 1 2 7 (CV.seq (CV.region ?_))))
 refine RV.m rfl rfl ?_
 refine RV.op (OV.call [1] (F := [_]) Tryz.func92 B92 N92 rfl rfl (fun w h => advance_fn b3_3 n hn ar ck now) (fun _ hb => hb.elim) gno rfl (fun v L' hp => ?_))
 obtain ⟨rfl, rfl⟩ := hp
 refine RV.nil (KV.then_n (KV.e3 0 1 7 (CV.seq (CV.seq (CV.region ?_)))))
 refine RV.op (OV.call [] (F := [_, _]) Tryz.func62 B62 N62 rfl rfl (fun w h => counts_fn b3_3 (h.blk 1 rfl)) (fun _ hb => hb.elim) gno rfl (fun v L' hp => ?_))
 obtain ⟨rfl, rfl⟩ := hp
 simp only [List.append_nil]
 refine RV.m rfl rfl (RV.s (Step.extract0 rfl rfl) rfl (RV.s (Step.extract0 rfl rfl) rfl (RV.a rfl rfl (RV.a rfl rfl ?_))))
 refine RV.nil (KV.then_n (KV.e5 0 1 7 8 9 (CV.seq (CV.region ?_))))
 refine RV.m rfl rfl (RV.m rfl rfl (RV.s (Step.neq rfl rfl) rfl (RV.m rfl rfl (RV.gw rfl (Step.move rfl) rfl (RV.gw rfl (Step.gtr rfl rfl) rfl (RV.s (Step.pick_f rfl rfl) rfl ?_))))))
 refine RV.nil (KV.then_n (KV.e4 0 1 7 29 (CV.cond_f rfl (CV.skip (KV.then_n ?_)))))
 refine KV.e3 0 1 7 (CV.seq (CV.region ?_))
 refine RV.s (Step.fieldAddr rfl (F188_5 _ _)) rfl ?_
 refine RV.op (OV.store 1 [_] #[_, _, _, _, _, _, _, _, _, _, _, _, _, _, _, _, _, _, _, _, _, _, _, _, _, _, _, _, _, _, _, _, _, _, _, _, _, _, _, _, _, _, _, _, _, _, _, _, _, _, _, _, _, _, _, _, _, _, _, _, _, _, _, _, _, _, _, _, _, _, _, _, _, _, _, _, _, _, _, _, _, _, _, _, _, _, _, _, _, _, _, _, _, _, _, _, _, _, _, _, _, _, _] I4 rfl rfl rfl rfl rfl (Nat.le_of_ble_eq_true rfl) (by simp [Value.oneCell']) rfl gno ?_)
 refine RV.nil (KV.then_n (KV.e3 0 1 7 (CV.seq (CV.region ?_))))
 refine RV.m rfl rfl (RV.s (Step.fieldAddr rfl (F188_6 _ _)) rfl ?_)
 refine RV.op (OV.store 1 [_] #[_, _, _, _, _, _, _, _, _, _, _, _, _, _, _, _, _, _, _, _, _, _, _, _, _, _, _, _, _, _, _, _, _, _, _, _, _, _, _, _, _, _, _, _, _, _, _, _, _, _, _, _, _, _, _, _, _, _, _, _, _, _, _, _, _, _, _, _, _, _, _, _, _, _, _, _, _, _, _, _, _, _, _, _, _, _, _, _, _, _, _, _, _, _, _, _, _, _, _, _, _, _, _] I3 rfl rfl rfl rfl rfl (Nat.le_of_ble_eq_true rfl) (by simp [Value.oneCell']) rfl gno ?_)
 refine RV.nil (KV.then_n (KV.e2 0 7 (CV.seq (CV.region ?_))))
 refine RV.m rfl rfl (RV.s (Step.loadN _ Tryz.underlying188 rfl I188 rfl rfl (fun w h => h.cellsO 1 0 (srcA n true now).toList rfl rfl)) rfl (RV.s (Step.nilCheck rfl) rfl ?_))
 refine RV.op (OV.store 0 [_, _, _, _, _, _, _, _, _, _, _, _, _, _, _, _, _, _, _, _, _, _, _, _, _, _, _, _, _, _, _, _, _, _, _, _, _, _, _, _, _, _, _, _, _, _, _, _, _, _, _, _, _, _, _, _, _, _, _, _, _, _, _, _, _, _, _, _, _, _, _, _, _, _, _, _, _, _, _, _, _, _, _, _, _, _, _, _, _, _, _, _, _, _, _, _, _, _, _, _, _, _, _] #[_, _, _, _, _, _, _, _, _, _, _, _, _, _, _, _, _, _, _, _, _, _, _, _, _, _, _, _, _, _, _, _, _, _, _, _, _, _, _, _, _, _, _, _, _, _, _, _, _, _, _, _, _, _, _, _, _, _, _, _, _, _, _, _, _, _, _, _, _, _, _, _, _, _, _, _, _, _, _, _, _, _, _, _, _, _, _, _, _, _, _, _, _, _, _, _, _, _, _, _, _, _, _] I188 rfl rfl rfl rfl rfl (Nat.le_of_ble_eq_true rfl) (by simp [Value.oneCell']) rfl gno ?_)
 refine RV.nil (KV.then_n (KV.env [] trivial (CV.seq (CV.region ?_))))
 refine RV.a rfl rfl ?_
 refine RV.nil (KV.then_n (KV.e1 6 (CV.ret ?_)))
 refine KV.sel [0] [_] rfl ?_
 exact KV.ret1 rfl rfl _ (fun _ h => h) ⟨rfl, rfl⟩

set_option maxRecDepth 100000 in
set_option maxHeartbeats 1000000 in
theorem frNew_fn (n : Nat) (hn : n ≤ 64) {w : World} : Fx Tryz.prog 35 [.int .i64 n] w [] no (fun v L => ∃ b A, v = .tuple #[.pointer (some ⟨b, 0, none⟩), .int .i64 0] ∧ L = [Blk b (.cells (frC 0 0 0 A n n) 148 (0, 0)), OS 24 (intK .u64) A n (List.replicate n 0)]) := by
 refine Sv.Fx.body Tryz.func35 rfl T35 rfl ?_
 intro I hro hI
 refine KV.e1 0 (CV.seq (CV.region ?_))
 refine RV.a rfl rfl (RV.a rfl rfl ?_)
 refine RV.nil (KV.then_n (KV.e1 0 (CV.seq (CV.seq (CV.region ?_)))))
 refine RV.m rfl rfl ?_
 refine RV.op (OV.split gno (Step.lss rfl rfl) rfl (fun e1 => ?_) (fun e1 => ?_))
 ·
  exfalso; omega
 ·
  refine RV.m rfl rfl (RV.gw rfl (Step.move rfl) rfl ?_)
  refine RV.op (OV.split (gyes rfl) (Step.gtr rfl rfl) rfl (fun e2 => ?_) (fun e2 => ?_))
  ·
   exfalso; omega
  ·
   refine RV.s (Step.pick_f rfl rfl) rfl ?_
   refine RV.nil (KV.then_n (KV.e2 0 9 (CV.cond_f rfl (CV.skip (KV.then_n ?_)))))
   refine KV.e1 0 (CV.seq (CV.region ?_))
   refine RV.m rfl rfl ?_
   refine RV.op (OV.make (K := (intK .u64)) (n) (n) (0) Tryz.underlying85 I24 rfl rfl rfl rfl rfl (by omega) (by omega) (by omega) gno rfl (fun b3_1 => ?_))
   refine RV.s (Step.build rfl (Bd148_3 _ _ _)) rfl ?_
   refine RV.op (OV.box (t := 148) #[_, _, _, _] rfl rfl gno rfl (fun b3_3 => ?_))
   refine RV.a rfl rfl (RV.a rfl rfl ?_)
   refine RV.nil (KV.then_n (KV.e2 2 3 (CV.ret ?_)))
   refine KV.sel [1, 0] [_, _] rfl ?_
   exact KV.ret2 rfl rfl rfl _ (fun _ h => h) ⟨_, _, rfl, rfl⟩

set_option maxRecDepth 100000 in
set_option maxHeartbeats 1000000 in
theorem timely_fn (b : Nat) {st ck dl : Int} {A : Option Addr} {n c : Nat} {fz : Nat × Nat} {w : World} (hb : w.heap[b]? = some (.cells (frC st ck dl A n c) 148 fz)) (now : Int) (h1 : ck ≤ now) (h2 : now ≤ 1152921504606846976) : Fx Tryz.prog 60 [.pointer (some ⟨b, 0, none⟩), .int .u64 now] w [] no (fun v L => v = .bool true ∧ L = []) := by
 refine Sv.Fx.body Tryz.func60 rfl T60 rfl ?_
 intro I hro hI
 refine KV.e2 0 1 (CV.seq (CV.region ?_))
 refine RV.a rfl rfl ?_
 refine RV.nil (KV.then_n (KV.e2 0 1 (CV.seq (CV.region ?_))))
 refine RV.m rfl rfl (RV.m rfl rfl (RV.s (Step.nilCheck rfl) rfl (RV.s (Step.fieldAddr rfl (F148_1 _ _)) rfl (RV.s (Step.load Tryz.underlying24 rfl rfl (fun w h => (cell_of (h.ro hb (hI b)) 1).trans rfl)) rfl ?_))))
 refine RV.op (OV.split gno (Step.geq rfl rfl) rfl (fun e1 => ?_) (fun e1 => ?_))
 ·
  refine RV.m rfl rfl (RV.gw rfl (Step.move rfl) rfl ?_)
  refine RV.op (OV.split (gyes rfl) (Step.leq rfl rfl) rfl (fun e2 => ?_) (fun e2 => ?_))
  ·
   refine RV.s (Step.pick_t rfl rfl) rfl (RV.a rfl rfl ?_)
   refine RV.nil (KV.then_n (KV.e1 4 (CV.ret ?_)))
   refine KV.sel [] [] rfl ?_
   exact KV.ret1 rfl rfl _ (fun _ h => h) ⟨rfl, rfl⟩
  ·
   exfalso; omega
 ·
  exfalso; omega

set_option maxRecDepth 100000 in
set_option maxHeartbeats 1000000 in
theorem frAdv_fn (b : Nat) (A : Option Addr) (c : Nat) (es : List Int) (hl : es.length ≤ 64) (ck dl : Int) (now : Int) (h1 : ck ≤ now) (h2 : now ≤ 1152921504606846976) {w : World} : Fx Tryz.prog 93 [.pointer (some ⟨b, 0, none⟩), .int .u64 now] w [Blk b (.cells (frC 1 ck dl A es.length c) 148 (0, 0)), OS 24 (intK .u64) A c es] no (fun v L => v = .tuple #[.bool (adB es dl now), .int .i64 (adE es dl now)] ∧ L = [Blk b (.cells (frC (adS es dl now) now dl A es.length c) 148 (0, 0)), OS 24 (intK .u64) A c es]) := by
 refine Sv.Fx.body Tryz.func93 rfl T93 rfl ?_
 intro I hro hI
 refine KV.e2 0 1 (CV.seq (CV.region ?_))
 refine RV.a rfl rfl (RV.a rfl rfl ?_)
 refine RV.nil (KV.then_n (KV.e2 0 1 (CV.seq (CV.seq (CV.region ?_)))))
 refine RV.m rfl rfl (RV.m rfl rfl ?_)
 refine RV.op (OV.call [] (F := [_, _]) Tryz.func60 B60 N60 rfl rfl (fun w h => timely_fn b (h.blk 0 rfl) now h1 h2) (fun _ hb => hb.elim) gno rfl (fun v L' hp => ?_))
 obtain ⟨rfl, rfl⟩ := hp
 simp only [List.append_nil]
 refine RV.s (Step.not rfl) rfl ?_
 refine RV.nil (KV.then_n (KV.e3 0 1 13 (CV.cond_f rfl (CV.skip (KV.then_n ?_)))))
 refine KV.e2 0 1 (CV.seq (CV.region ?_))
 refine RV.m rfl rfl (RV.m rfl rfl (RV.s (Step.nilCheck rfl) rfl (RV.s (Step.fieldAddr rfl (F148_1 _ _)) rfl ?_)))
 refine RV.op (OV.store 0 [_] #[_, _, _, _] I24 rfl rfl rfl rfl rfl (Nat.le_of_ble_eq_true rfl) (by simp [Value.oneCell']) rfl gno ?_)
 refine RV.nil (KV.then_n (KV.e2 0 1 (CV.seq (CV.seq (CV.region ?_)))))
 refine RV.m rfl rfl (RV.s (Step.nilCheck rfl) rfl (RV.s (Step.fieldAddr rfl (F148_0 _ _)) rfl (RV.s (Step.load Tryz.underlying3 rfl rfl (fun w h => h.cell 0 rfl rfl)) rfl (RV.s (Step.neq rfl rfl) rfl ?_))))
 refine RV.nil (KV.then_n (KV.e3 0 1 22 (CV.cond_f rfl (CV.skip (KV.then_n ?_)))))
 refine KV.e2 0 1 (CV.seq (CV.region ?_))
 refine RV.m rfl rfl (RV.m rfl rfl (RV.s (Step.nilCheck rfl) rfl (RV.s (Step.fieldAddr rfl (F148_2 _ _)) rfl (RV.s (Step.load Tryz.underlying24 rfl rfl (fun w h => h.cell 0 rfl rfl)) rfl (RV.s (Step.min2 rfl rfl) rfl (RV.a rfl rfl ?_))))))
 refine RV.nil (KV.then_n (KV.e3 0 1 6 (CV.seq (CV.region ?_))))
 refine RV.a rfl rfl ?_
 refine RV.nil (KV.then_n (KV.e4 0 1 6 7 (CV.seq (CV.seq (CV.region ?_)))))
 refine RV.m rfl rfl (RV.s (Step.nilCheck rfl) rfl (RV.s (Step.fieldAddr rfl (F148_3 _ _)) rfl (RV.s (Step.load Tryz.underlying85 rfl rfl (fun w h => h.cell 0 rfl rfl)) rfl (RV.s (Step.lenSl Tryz.underlying85 rfl) rfl (RV.m rfl rfl ?_)))))
 refine RV.nil (KV.then_n (KV.e7 0 1 6 7 37 38 39 (CV.block ?_)))
 refine KV.sel [0, 0] [_, _] rfl ?_
 refine CV.loopI (fun (k : Nat) => k ≤ es.length) (fun (k : Nat) => es.length - k) (fun (k : Nat) => [(0, .pointer (some ⟨b, 0, none⟩)), (1, .int .u64 now), (6, .int .u64 (min now dl)), (7, .bool (allLe es (min now dl) k)), (37, .slice A es.length c), (38, .int .i64 es.length), (39, .int .i64 k)]) (fun (k : Nat) => Hp I w [Blk b (.cells (frC 1 now dl A es.length c) 148 (0, 0)), OS 24 (intK .u64) A c es]) (0) (Nat.zero_le _) ⟨rfl, rfl, rfl, (show some (Value.bool _) = some (Value.bool _) by rw [allLe_zero]), rfl, rfl, rfl, trivial⟩ (fun _ h => h) ?_
 intro k hinv
 refine CV.seq (CV.region ?_)
 refine RV.op (OV.split gno (Step.lss rfl rfl) rfl (fun cc1 => ?_) (fun cc1 => ?_))
 ·
  refine RV.nil (KV.then_n (KV.e8 0 1 6 7 37 38 39 40 (CV.seq (CV.cond_t rfl (CV.skip ?_)))))
  refine KV.then_n (KV.e7 0 1 6 7 37 38 39 (CV.seq (CV.block (CV.seq (CV.region ?_)))))
  refine RV.s (Step.idx Tryz.underlying85 I24 (fun w h => h.os 1 rfl) rfl rfl (rfl) _ rfl (by omega)) rfl ?_
  refine RV.s (Step.load Tryz.underlying24 rfl rfl (fun w h => (h.os 1 rfl).cell0 (by omega) rfl)) rfl ?_
  refine RV.a rfl rfl ?_
  refine RV.nil (KV.then_n (KV.e8 0 1 6 7 9 37 38 39 (CV.seq (CV.region ?_))))
  refine RV.m rfl rfl (RV.m rfl rfl ?_)
  refine RV.op (OV.split gno (Step.gtr rfl rfl) rfl (fun hq => ?_) (fun hq => ?_))
  ·
   refine RV.nil (KV.then_n (KV.e8 0 1 6 7 37 38 39 45 (CV.cond_t rfl (CV.region ?_))))
   refine RV.a rfl rfl ?_
   refine RV.nil (KV.block_n (KV.then_n (KV.e7 0 1 6 7 37 38 39 (CV.region ?_))))
   (first | refine RV.op (OV.step gno (Step.add rfl rfl (wI64 (by omega) (by omega))) rfl ?_) | refine RV.op (OV.step gno (Step.add rfl rfl rfl) rfl ?_))
   refine RV.m rfl rfl ?_
   refine RV.nil (KV.then_n (KV.e7 0 1 6 7 37 38 39 ?_))
   refine KV.sel [0, 0] [_, _] rfl ?_
   exact KV.loopI (z := k) (k + 1) (by omega) (by omega) ⟨rfl, rfl, rfl, (show some (Value.bool _) = some (Value.bool _) by first | rw [allLe_f (by omega)] | rw [allLe_t (by omega)]), rfl, rfl, rfl, trivial⟩ (fun _ h => h)
  ·
   refine RV.nil (KV.then_n (KV.e8 0 1 6 7 37 38 39 45 (CV.cond_f rfl (CV.skip (KV.block_n ?_)))))
   refine KV.then_n (KV.e7 0 1 6 7 37 38 39 (CV.region ?_))
   (first | refine RV.op (OV.step gno (Step.add rfl rfl (wI64 (by omega) (by omega))) rfl ?_) | refine RV.op (OV.step gno (Step.add rfl rfl rfl) rfl ?_))
   refine RV.m rfl rfl ?_
   refine RV.nil (KV.then_n (KV.e7 0 1 6 7 37 38 39 ?_))
   refine KV.sel [0, 0] [_, _] rfl ?_
   exact KV.loopI (z := k) (k + 1) (by omega) (by omega) ⟨rfl, rfl, rfl, (show some (Value.bool _) = some (Value.bool _) by first | rw [allLe_f (by omega)] | rw [allLe_t (by omega)]), rfl, rfl, rfl, trivial⟩ (fun _ h => h)
 ·
  refine RV.nil (KV.then_n (KV.e8 0 1 6 7 37 38 39 40 (CV.seq (CV.cond_f rfl (CV.exit ?_)))))
  refine KV.then_exit (KV.then_exit (KV.block_hit (KV.then_n (KV.e3 0 1 7 (CV.seq ?_)))))
  refine CV.block (CV.seq ?_)
  obtain rfl : k = es.length := by omega
  refine CV.region ?_
  refine RV.m rfl rfl (RV.a rfl rfl ?_)
  refine RV.nil (KV.then_n (KV.e3 0 1 47 ?_))
  refine KV.cases 47 rfl (fun cc2 => ?_) (fun cc2 => ?_)
  ·
   have hal := cc2
   refine CV.cond_t rfl (CV.region ?_)
   refine RV.m rfl rfl (RV.s (Step.nilCheck rfl) rfl (RV.s (Step.fieldAddr rfl (F148_0 _ _)) rfl ?_))
   refine RV.op (OV.store 0 [_] #[_, _, _, _] I3 rfl rfl rfl rfl rfl (Nat.le_of_ble_eq_true rfl) (by simp [Value.oneCell']) rfl gno ?_)
   refine RV.nil (KV.block_n (KV.then_n (KV.e1 0 (CV.seq (CV.region ?_)))))
   refine RV.m rfl rfl (RV.s (Step.nilCheck rfl) rfl (RV.s (Step.fieldAddr rfl (F148_0 _ _)) rfl (RV.s (Step.load Tryz.underlying3 rfl rfl (fun w h => h.cell 0 rfl rfl)) rfl (RV.s (Step.eql rfl rfl) rfl (RV.a rfl rfl (RV.a rfl rfl ?_))))))
   refine RV.nil (KV.then_n (KV.e2 4 5 (CV.ret ?_)))
   refine KV.sel [0, 0] [_, _] rfl ?_
   first | exact KV.ret2 rfl rfl rfl _ (fun _ h => h) ⟨by rw [show adB es dl now = true from hal, show adE es dl now = 0 from if_pos hal] <;> rfl, by rw [show adS es dl now = 2 from if_pos hal]⟩ | exact KV.ret2 rfl rfl rfl _ (fun _ h => h) ⟨by rw [show adB es dl now = false from hal, show adE es dl now = 0 from (if_neg (by rw [hal]; decide)).trans (if_neg hd)] <;> rfl, by rw [show adS es dl now = 1 from (if_neg (by rw [hal]; decide)).trans (if_neg hd)]⟩
  ·
   have hal := cc2
   refine CV.cond_f rfl (CV.seq (CV.region ?_))
   refine RV.m rfl rfl (RV.m rfl rfl (RV.s (Step.nilCheck rfl) rfl (RV.s (Step.fieldAddr rfl (F148_2 _ _)) rfl (RV.s (Step.load Tryz.underlying24 rfl rfl (fun w h => h.cell 0 rfl rfl)) rfl ?_))))
   refine RV.op (OV.split gno (Step.geq rfl rfl) rfl (fun hd => ?_) (fun hd => ?_))
   ·
    refine RV.a rfl rfl ?_
    refine RV.nil (KV.then_n (KV.e2 0 52 (CV.cond_t rfl (CV.seq (CV.region ?_)))))
    refine RV.m rfl rfl (RV.s (Step.nilCheck rfl) rfl (RV.s (Step.fieldAddr rfl (F148_0 _ _)) rfl ?_))
    refine RV.op (OV.store 0 [_] #[_, _, _, _] I3 rfl rfl rfl rfl rfl (Nat.le_of_ble_eq_true rfl) (by simp [Value.oneCell']) rfl gno ?_)
    refine RV.nil (KV.then_n (KV.env [] trivial (CV.seq (CV.region ?_))))
    refine RV.a rfl rfl (RV.a rfl rfl ?_)
    refine RV.nil (KV.then_n (KV.e2 4 5 (CV.ret (KV.block_ret (KV.then_ret ?_)))))
    refine KV.sel [0, 0] [_, _] rfl ?_
    exact KV.ret2 rfl rfl rfl _ (fun _ h => h) ⟨by rw [show adB es dl now = false from hal, show adE es dl now = 14 from (if_neg (by rw [hal]; decide)).trans (if_pos hd)] <;> rfl, by rw [show adS es dl now = 0 from (if_neg (by rw [hal]; decide)).trans (if_pos hd)]⟩
   ·
    refine RV.a rfl rfl ?_
    refine RV.nil (KV.then_n (KV.e2 0 52 (CV.cond_f rfl (CV.skip (KV.block_n ?_)))))
    refine KV.then_n (KV.e1 0 (CV.seq (CV.region ?_)))
    refine RV.m rfl rfl (RV.s (Step.nilCheck rfl) rfl (RV.s (Step.fieldAddr rfl (F148_0 _ _)) rfl (RV.s (Step.load Tryz.underlying3 rfl rfl (fun w h => h.cell 0 rfl rfl)) rfl (RV.s (Step.eql rfl rfl) rfl (RV.a rfl rfl (RV.a rfl rfl ?_))))))
    refine RV.nil (KV.then_n (KV.e2 4 5 (CV.ret ?_)))
    refine KV.sel [0, 0] [_, _] rfl ?_
    first | exact KV.ret2 rfl rfl rfl _ (fun _ h => h) ⟨by rw [show adB es dl now = true from hal, show adE es dl now = 0 from if_pos hal] <;> rfl, by rw [show adS es dl now = 2 from if_pos hal]⟩ | exact KV.ret2 rfl rfl rfl _ (fun _ h => h) ⟨by rw [show adB es dl now = false from hal, show adE es dl now = 0 from (if_neg (by rw [hal]; decide)).trans (if_neg hd)] <;> rfl, by rw [show adS es dl now = 1 from (if_neg (by rw [hal]; decide)).trans (if_neg hd)]⟩

set_option maxRecDepth 100000 in
set_option maxHeartbeats 1000000 in
theorem frAdv2_fn (b : Nat) (A : Option Addr) (c : Nat) (es : List Int) (hl : es.length ≤ 64) (ck dl : Int) (now : Int) (h1 : ck ≤ now) (h2 : now ≤ 1152921504606846976) {w : World} : Fx Tryz.prog 93 [.pointer (some ⟨b, 0, none⟩), .int .u64 now] w [Blk b (.cells (frC 2 ck dl A es.length c) 148 (0, 0)), OS 24 (intK .u64) A c es] no (fun v L => v = .tuple #[.bool true, .int .i64 0] ∧ L = [Blk b (.cells (frC 2 now dl A es.length c) 148 (0, 0)), OS 24 (intK .u64) A c es]) := by
 refine Sv.Fx.body Tryz.func93 rfl T93 rfl ?_
 intro I hro hI
 refine KV.e2 0 1 (CV.seq (CV.region ?_))
 refine RV.a rfl rfl (RV.a rfl rfl ?_)
 refine RV.nil (KV.then_n (KV.e2 0 1 (CV.seq (CV.seq (CV.region ?_)))))
 refine RV.m rfl rfl (RV.m rfl rfl ?_)
 refine RV.op (OV.call [] (F := [_, _]) Tryz.func60 B60 N60 rfl rfl (fun w h => timely_fn b (h.blk 0 rfl) now h1 h2) (fun _ hb => hb.elim) gno rfl (fun v L' hp => ?_))
 obtain ⟨rfl, rfl⟩ := hp
 simp only [List.append_nil]
 refine RV.s (Step.not rfl) rfl ?_
 refine RV.nil (KV.then_n (KV.e3 0 1 13 (CV.cond_f rfl (CV.skip (KV.then_n ?_)))))
 refine KV.e2 0 1 (CV.seq (CV.region ?_))
 refine RV.m rfl rfl (RV.m rfl rfl (RV.s (Step.nilCheck rfl) rfl (RV.s (Step.fieldAddr rfl (F148_1 _ _)) rfl ?_)))
 refine RV.op (OV.store 0 [_] #[_, _, _, _] I24 rfl rfl rfl rfl rfl (Nat.le_of_ble_eq_true rfl) (by simp [Value.oneCell']) rfl gno ?_)
 refine RV.nil (KV.then_n (KV.e2 0 1 (CV.seq (CV.seq (CV.region ?_)))))
 refine RV.m rfl rfl (RV.s (Step.nilCheck rfl) rfl (RV.s (Step.fieldAddr rfl (F148_0 _ _)) rfl (RV.s (Step.load Tryz.underlying3 rfl rfl (fun w h => h.cell 0 rfl rfl)) rfl (RV.s (Step.neq rfl rfl) rfl ?_))))
 refine RV.nil (KV.then_n (KV.e3 0 1 22 (CV.cond_t rfl (CV.seq (CV.region ?_)))))
 refine RV.m rfl rfl (RV.s (Step.nilCheck rfl) rfl (RV.s (Step.fieldAddr rfl (F148_0 _ _)) rfl (RV.s (Step.load Tryz.underlying3 rfl rfl (fun w h => h.cell 0 rfl rfl)) rfl (RV.s (Step.eql rfl rfl) rfl (RV.a rfl rfl (RV.a rfl rfl ?_))))))
 refine RV.nil (KV.then_n (KV.e2 4 5 (CV.ret (KV.then_ret ?_))))
 refine KV.sel [0, 0] [_, _] rfl ?_
 exact KV.ret2 rfl rfl rfl _ (fun _ h => h) ⟨rfl, rfl⟩

set_option maxRecDepth 100000 in
set_option maxHeartbeats 1000000 in
theorem freeze_fn (b : Nat) (A : Option Addr) (c : Nat) (es : List Int) (hl : es.length ≤ 64) (ck dl0 dl : Int) (now : Int) (h1 : ck ≤ now) (h2 : now ≤ 1152921504606846976) {w : World} (h3 : now ≤ dl) (h4 : dl ≤ 1152921504606846976) : Fx Tryz.prog 64 [.pointer (some ⟨b, 0, none⟩), .int .u64 now, .int .u64 dl] w [Blk b (.cells (frC 0 ck dl0 A es.length c) 148 (0, 0)), OS 24 (intK .u64) A c es] no (fun v L => v = .int .i64 (adE es dl now) ∧ L = [Blk b (.cells (frC (adS es dl now) now dl A es.length c) 148 (0, 0)), OS 24 (intK .u64) A c es]) := by
 refine Sv.Fx.body Tryz.func64 rfl T64 rfl ?_
 intro I hro hI
 refine KV.e3 0 1 2 (CV.seq (CV.region ?_))
 refine RV.a rfl rfl ?_
 refine RV.nil (KV.then_n (KV.e3 0 1 2 (CV.seq (CV.seq (CV.region ?_)))))
 refine RV.m rfl rfl (RV.m rfl rfl ?_)
 refine RV.op (OV.split gno (Step.lss rfl rfl) rfl (fun e1 => ?_) (fun e1 => ?_))
 ·
  exfalso; omega
 ·
  refine RV.m rfl rfl (RV.gw rfl (Step.move rfl) rfl ?_)
  refine RV.op (OV.split (gyes rfl) (Step.gtr rfl rfl) rfl (fun e2 => ?_) (fun e2 => ?_))
  ·
   exfalso; omega
  ·
   refine RV.s (Step.pick_f rfl rfl) rfl (RV.m rfl rfl (RV.gw rfl (Step.move rfl) rfl (RV.gw rfl (Step.move rfl) rfl ?_)))
   refine RV.op (OV.call [] (F := [_, _]) Tryz.func60 B60 N60 rfl rfl (fun w h => timely_fn b (h.blk 0 rfl) now h1 h2) (fun _ hb => hb.elim) (gyes rfl) rfl (fun v L' hp => ?_))
   obtain ⟨rfl, rfl⟩ := hp
   simp only [List.append_nil]
   refine RV.gw rfl (Step.not rfl) rfl (RV.s (Step.pick_f rfl rfl) rfl ?_)
   refine RV.nil (KV.then_n (KV.e4 0 1 2 21 (CV.cond_f rfl (CV.skip (KV.then_n ?_)))))
   refine KV.e3 0 1 2 (CV.seq (CV.seq (CV.region ?_)))
   refine RV.m rfl rfl (RV.s (Step.nilCheck rfl) rfl (RV.s (Step.fieldAddr rfl (F148_0 _ _)) rfl (RV.s (Step.load Tryz.underlying3 rfl rfl (fun w h => h.cell 0 rfl rfl)) rfl (RV.s (Step.neq rfl rfl) rfl ?_))))
   refine RV.nil (KV.then_n (KV.e4 0 1 2 26 (CV.cond_f rfl (CV.skip (KV.then_n ?_)))))
   refine KV.e3 0 1 2 (CV.seq (CV.region ?_))
   refine RV.m rfl rfl (RV.s (Step.nilCheck rfl) rfl (RV.s (Step.fieldAddr rfl (F148_0 _ _)) rfl ?_))
   refine RV.op (OV.store 0 [_] #[_, _, _, _] I3 rfl rfl rfl rfl rfl (Nat.le_of_ble_eq_true rfl) (by simp [Value.oneCell']) rfl gno ?_)
   refine RV.nil (KV.then_n (KV.e3 0 1 2 (CV.seq (CV.region ?_))))
   refine RV.m rfl rfl (RV.m rfl rfl (RV.s (Step.nilCheck rfl) rfl (RV.s (Step.fieldAddr rfl (F148_2 _ _)) rfl ?_)))
   refine RV.op (OV.store 0 [_] #[_, _, _, _] I24 rfl rfl rfl rfl rfl (Nat.le_of_ble_eq_true rfl) (by simp [Value.oneCell']) rfl gno ?_)
   refine RV.nil (KV.then_n (KV.e2 0 1 (CV.seq (CV.region ?_))))
   refine RV.m rfl rfl (RV.m rfl rfl ?_)
   refine RV.op (OV.call [0, 0] (F := []) Tryz.func93 B93 N93 rfl rfl (fun w h => frAdv_fn b A c es hl ck dl now h1 h2) (fun _ hb => hb.elim) gno rfl (fun v L' hp => ?_))
   obtain ⟨rfl, rfl⟩ := hp
   refine RV.m rfl rfl (RV.s (Step.extract0 rfl rfl) rfl (RV.s (Step.extract0 rfl rfl) rfl (RV.a rfl rfl (RV.a rfl rfl ?_))))
   refine RV.nil (KV.then_n (KV.e1 8 (CV.seq (CV.region ?_))))
   refine RV.m rfl rfl (RV.a rfl rfl ?_)
   refine RV.nil (KV.then_n (KV.e1 6 (CV.ret ?_)))
   refine KV.sel [0, 0] [_, _] rfl ?_
   exact KV.ret1 rfl rfl _ (fun _ h => h) ⟨rfl, rfl⟩

set_option maxRecDepth 100000 in
set_option maxHeartbeats 1000000 in
theorem cloneN_fn {A : Option Addr} {n c : Nat} {ys : List Int} {w : World} (hr : RS w (intK .i64) A ys) (hn : n = ys.length) (hl : ys.length ≤ 1000000) : Fx Tryz.prog 138 [.slice A n c] w [] no (fun v L => ∃ A2 c2, v = .slice A2 ys.length c2 ∧ L = [OS 3 (intK .i64) A2 c2 ys]) := by
 subst hn
 refine Sv.Fx.body Tryz.func138 rfl T138 rfl ?_
 intro I hro hI
 refine KV.e1 0 (CV.seq (CV.region ?_))
 refine RV.a rfl rfl ?_
 refine RV.nil (KV.then_n (KV.e1 0 (CV.seq (CV.seq (CV.region ?_)))))
 refine RV.m rfl rfl ?_
 refine RV.op (OV.split gno (Step.nilSl Tryz.underlying48 rfl rfl) rfl (fun hq => ?_) (fun hq => ?_))
 ·
  subst hq
  obtain rfl := hr.nil_of
  refine RV.nil (KV.then_n (KV.e2 0 4 (CV.cond_t rfl (CV.seq (CV.region ?_)))))
  refine RV.a rfl rfl ?_
  refine RV.nil (KV.then_n (KV.e1 2 (CV.ret (KV.then_ret ?_))))
  refine KV.sel [] [] rfl ?_
  exact KV.ret1 rfl rfl _ (fun _ h => h.nilOS) ⟨none, 0, rfl, rfl⟩
 ·
  refine RV.nil (KV.then_n (KV.e2 0 4 (CV.cond_f rfl (CV.skip (KV.then_n ?_)))))
  refine KV.e1 0 (CV.seq (CV.region ?_))
  refine RV.op (OV.buildSlice (K := (intK .i64)) ([]) rfl (Bs48_0_) rfl rfl (by omega) gno rfl (fun b3_0 => ?_))
  refine RV.m rfl rfl ?_
  refine RV.op (OV.append 0 Tryz.underlying48 I3 rfl rfl rfl rfl rfl rfl (fun w h => h.rs hr (fun _ => hI _)) (by simp only [List.length_nil]; omega) (by simp only [List.length_nil]; omega) gno rfl (fun b3_2a b3_2c => ?_))
  refine RV.a rfl rfl ?_
  refine RV.nil (KV.then_n (KV.e1 2 (CV.ret ?_)))
  refine KV.sel [0] [_] rfl ?_
  exact KV.ret1 rfl rfl _ (fun _ h => h) ⟨_, _, rfl, rfl⟩

set_option maxRecDepth 100000 in
set_option maxHeartbeats 1000000 in
theorem order_fn (b : Nat) {tp mp bp : Option Addr} {A : Option Addr} {c : Nat} {fz : Nat × Nat} {w : World} (hb : w.heap[b]? = some (.cells #[.slice none 0 0, .pointer tp, .pointer mp, .pointer bp, .slice A 0 c] 170 fz)) : Fx Tryz.prog 133 [.pointer (some ⟨b, 0, none⟩)] w [] no (fun v L => ∃ A2 c2, v = .slice A2 0 c2 ∧ L = []) := by
 refine Sv.Fx.body Tryz.func133 rfl T133 rfl ?_
 intro I hro hI
 refine KV.e1 0 (CV.seq (CV.region ?_))
 refine RV.a rfl rfl ?_
 refine RV.nil (KV.then_n (KV.e1 0 (CV.seq (CV.region ?_))))
 refine RV.m rfl rfl (RV.s (Step.nilCheck rfl) rfl (RV.s (Step.fieldAddr rfl (F170_4 _ _)) rfl (RV.s (Step.load Tryz.underlying48 rfl rfl (fun w h => (cell_of (h.ro hb (hI b)) 4).trans rfl)) rfl ?_)))
 refine RV.op (OV.call [] (F := []) Tryz.func138 B138 N138 rfl rfl (fun w h => cloneN_fn (ys := []) RS.nil rfl (by decide)) (fun _ hb => hb.elim) gno rfl (fun v L' hp => ?_))
 obtain ⟨A2, c2, rfl, rfl⟩ := hp
 refine RV.a rfl rfl ?_
 refine RV.nil (KV.then_n (KV.e1 2 (CV.ret ?_)))
 refine KV.sel [] [] rfl ?_
 exact KV.ret1 rfl rfl _ (fun _ h => h) ⟨_, _, rfl, rfl⟩

set_option maxRecDepth 100000 in
set_option maxHeartbeats 1000000 in
theorem suspNew_fn (A : Option Addr) (c : Nat) {w : World} : Fx Tryz.prog 132 [.slice A 0 c] w [] no (fun v L => ∃ b A2 c2 rest, v = .tuple #[.pointer (some ⟨b, 0, none⟩), .int .i64 0] ∧ L = [Blk b (.cells (sqC A2 c2 2 rest) 242 (0, 0))]) := by
 refine Sv.Fx.body Tryz.func132 rfl T132 rfl ?_
 intro I hro hI
 refine KV.e1 0 (CV.seq (CV.region ?_))
 refine RV.a rfl rfl (RV.a rfl rfl ?_)
 refine RV.nil (KV.then_n (KV.e1 0 (CV.seq (CV.seq (CV.region ?_)))))
 refine RV.m rfl rfl (RV.s (Step.lenSl Tryz.underlying48 rfl) rfl (RV.s (Step.gtr rfl rfl) rfl ?_))
 refine RV.nil (KV.then_n (KV.e2 0 10 (CV.cond_f rfl (CV.skip (KV.then_n ?_)))))
 refine KV.e1 0 (CV.seq (CV.region ?_))
 refine RV.op (OV.alloc #[.bool false, .bool false, .bool false, .bool false, .bool false, .bool false, .bool false, .bool false, .bool false, .bool false, .bool false, .bool false, .bool false, .bool false, .bool false, .bool false, .bool false, .bool false, .bool false, .bool false, .bool false, .bool false, .bool false, .bool false, .bool false, .bool false, .bool false, .bool false, .bool false, .bool false, .bool false, .bool false, .bool false, .bool false, .bool false, .bool false, .bool false, .bool false, .bool false, .bool false, .bool false, .bool false, .bool false, .bool false, .bool false, .bool false, .bool false, .bool false, .bool false, .bool false, .bool false, .bool false, .bool false, .bool false, .bool false, .bool false, .bool false, .bool false, .bool false, .bool false, .bool false, .bool false, .bool false, .bool false] I239 rfl gno rfl (fun b3_0 => ?_))
 refine RV.nil (KV.then_n (KV.e2 0 4 (CV.seq (CV.seq (CV.region ?_)))))
 refine RV.m rfl rfl (RV.s (Step.lenSl Tryz.underlying48 rfl) rfl (RV.m rfl rfl ?_))
 refine RV.nil (KV.then_n (KV.e5 0 4 11 12 13 (CV.block (KV.e5 0 4 11 12 13 ?_))))
 refine CV.loop0 ⟨rfl, rfl, rfl, rfl, rfl, trivial⟩ (fun _ => ?_)
 refine CV.seq (CV.region ?_)
 refine RV.s (Step.lss rfl rfl) rfl ?_
 refine RV.nil (KV.then_n (KV.e6 0 4 11 12 13 14 (CV.seq (CV.cond_f rfl (CV.exit ?_)))))
 refine KV.then_exit (KV.then_exit (KV.block_hit (KV.then_n (KV.e1 0 (CV.seq ?_)))))
 refine CV.region ?_
 refine RV.m rfl rfl ?_
 refine RV.op (OV.call [] (F := [_]) Tryz.func138 B138 N138 rfl rfl (fun w h => cloneN_fn (ys := []) RS.nil rfl (by decide)) (fun _ hb => hb.elim) gno rfl (fun v L' hp => ?_))
 obtain ⟨A2, c2, rfl, rfl⟩ := hp
 refine RV.s (Step.build rfl (Bd242_0_1_2 _ _ _ _ _)) rfl ?_
 refine RV.op (OV.box (t := 242) #[_, _, _, _, _, _, _, _, _, _, _, _, _, _, _, _, _, _, _, _, _, _, _, _, _, _, _, _, _, _, _, _, _, _, _, _, _, _, _, _, _, _, _, _, _, _, _, _, _, _, _, _, _, _, _, _, _, _, _, _, _, _, _, _, _, _, _, _, _, _, _, _, _, _, _, _, _, _, _, _, _, _, _, _, _, _, _, _, _, _, _, _, _, _, _, _, _, _, _, _, _, _, _, _, _, _, _, _, _, _, _, _, _, _, _, _, _, _, _, _, _, _, _, _, _, _, _, _, _, _, _, _, _, _, _, _, _, _, _, _, _, _, _, _, _, _, _, _, _, _, _, _, _, _, _, _, _, _, _, _, _, _, _, _, _, _, _, _, _, _, _, _, _, _, _, _, _, _, _, _, _, _, _, _, _, _, _, _, _, _, _, _, _, _, _, _, _, _, _, _, _, _, _, _, _, _, _, _, _, _, _, _, _, _, _, _, _, _, _, _, _, _, _, _, _, _, _, _, _, _, _, _, _, _, _, _, _, _, _, _, _, _, _, _, _, _, _, _, _, _, _, _, _, _, _, _, _, _, _, _, _, _, _, _, _, _, _, _, _, _, _, _, _, _, _, _, _, _, _, _, _, _, _, _, _, _, _, _, _, _, _, _, _, _, _, _, _, _, _, _, _, _, _, _, _, _, _, _, _, _, _, _, _, _, _, _, _, _, _, _, _, _, _, _, _] rfl rfl gno rfl (fun b11_3 => ?_))
 refine RV.a rfl rfl ?_
 refine RV.nil (KV.then_n (KV.e2 0 7 (CV.seq (CV.seq (CV.region ?_)))))
 refine RV.m rfl rfl (RV.s (Step.lenSl Tryz.underlying48 rfl) rfl (RV.s (Step.eql rfl rfl) rfl ?_))
 refine RV.nil (KV.then_n (KV.e2 7 39 (CV.cond_t rfl (CV.region ?_))))
 refine RV.m rfl rfl (RV.s (Step.nilCheck rfl) rfl (RV.s (Step.fieldAddr rfl (F242_1 _ _)) rfl ?_))
 refine RV.op (OV.store 2 [_] #[_, _, _, _, _, _, _, _, _, _, _, _, _, _, _, _, _, _, _, _, _, _, _, _, _, _, _, _, _, _, _, _, _, _, _, _, _, _, _, _, _, _, _, _, _, _, _, _, _, _, _, _, _, _, _, _, _, _, _, _, _, _, _, _, _, _, _, _, _, _, _, _, _, _, _, _, _, _, _, _, _, _, _, _, _, _, _, _, _, _, _, _, _, _, _, _, _, _, _, _, _, _, _, _, _, _, _, _, _, _, _, _, _, _, _, _, _, _, _, _, _, _, _, _, _, _, _, _, _, _, _, _, _, _, _, _, _, _, _, _, _, _, _, _, _, _, _, _, _, _, _, _, _, _, _, _, _, _, _, _, _, _, _, _, _, _, _, _, _, _, _, _, _, _, _, _, _, _, _, _, _, _, _, _, _, _, _, _, _, _, _, _, _, _, _, _, _, _, _, _, _, _, _, _, _, _, _, _, _, _, _, _, _, _, _, _, _, _, _, _, _, _, _, _, _, _, _, _, _, _, _, _, _, _, _, _, _, _, _, _, _, _, _, _, _, _, _, _, _, _, _, _, _, _, _, _, _, _, _, _, _, _, _, _, _, _, _, _, _, _, _, _, _, _, _, _, _, _, _, _, _, _, _, _, _, _, _, _, _, _, _, _, _, _, _, _, _, _, _, _, _, _, _, _, _, _, _, _, _, _, _, _, _, _, _, _, _, _, _, _, _, _, _, _, _] I3 rfl rfl rfl rfl rfl (Nat.le_of_ble_eq_true rfl) (by simp [Value.oneCell']) rfl gno ?_)
 refine RV.nil (KV.then_n (KV.e1 7 (CV.seq (CV.region ?_))))
 refine RV.m rfl rfl (RV.a rfl rfl (RV.a rfl rfl ?_))
 refine RV.nil (KV.then_n (KV.e2 2 3 (CV.ret ?_)))
 refine KV.sel [2] [_] rfl ?_
 exact KV.ret2 rfl rfl rfl _ (fun _ h => h) ⟨_, _, _, _, rfl, rfl⟩

set_option maxRecDepth 100000 in
set_option maxHeartbeats 1000000 in
theorem asleep_fn (b : Nat) {A : Option Addr} {c : Nat} {rest : List Value} {fz : Nat × Nat} {w : World} (hb : w.heap[b]? = some (.cells (sqC A c 2 rest) 242 fz)) : Fx Tryz.prog 98 [.pointer (some ⟨b, 0, none⟩)] w [] no (fun v L => v = .bool true ∧ L = []) := by
 refine Sv.Fx.body Tryz.func98 rfl T98 rfl ?_
 intro I hro hI
 refine KV.e1 0 (CV.seq (CV.region ?_))
 refine RV.a rfl rfl ?_
 refine RV.nil (KV.then_n (KV.e1 0 (CV.seq (CV.region ?_))))
 refine RV.m rfl rfl (RV.s (Step.nilCheck rfl) rfl (RV.s (Step.fieldAddr rfl (F242_1 _ _)) rfl (RV.s (Step.load Tryz.underlying3 rfl rfl (fun w h => (cell_of (h.ro hb (hI b)) 1).trans rfl)) rfl (RV.s (Step.eql rfl rfl) rfl (RV.a rfl rfl ?_)))))
 refine RV.nil (KV.then_n (KV.e1 2 (CV.ret ?_)))
 refine KV.sel [] [] rfl ?_
 exact KV.ret1 rfl rfl _ (fun _ h => h) ⟨rfl, rfl⟩

set_option maxRecDepth 100000 in
set_option maxHeartbeats 1000000 in
theorem result_fn (b : Nat) {A : Option Addr} {c : Nat} {rest : List Value} {fz : Nat × Nat} {w : World} (hb : w.heap[b]? = some (.cells (sqC A c 2 rest) 242 fz)) : Fx Tryz.prog 100 [.pointer (some ⟨b, 0, none⟩)] w [] no (fun v L => v = .tuple #[.int .i64 0, .bool false] ∧ L = []) := by
 refine Sv.Fx.body Tryz.func100 rfl T100 rfl ?_
 intro I hro hI
 refine KV.e1 0 (CV.seq (CV.region ?_))
 refine RV.a rfl rfl (RV.a rfl rfl ?_)
 refine RV.nil (KV.then_n (KV.e1 0 (CV.seq (CV.seq (CV.region ?_)))))
 refine RV.m rfl rfl (RV.s (Step.nilCheck rfl) rfl (RV.s (Step.fieldAddr rfl (F242_1 _ _)) rfl (RV.s (Step.load Tryz.underlying3 rfl rfl (fun w h => (cell_of (h.ro hb (hI b)) 1).trans rfl)) rfl (RV.s (Step.neq rfl rfl) rfl ?_))))
 refine RV.nil (KV.then_n (KV.e2 0 8 (CV.cond_t rfl (CV.seq (CV.region ?_)))))
 refine RV.a rfl rfl (RV.a rfl rfl ?_)
 refine RV.nil (KV.then_n (KV.e2 2 3 (CV.ret (KV.then_ret ?_))))
 refine KV.sel [] [] rfl ?_
 exact KV.ret2 rfl rfl rfl _ (fun _ h => h) ⟨rfl, rfl⟩

set_option maxRecDepth 100000 in
set_option maxHeartbeats 1000000 in
theorem sleepNew_fn (pp wp fp : Option Addr) {w : World} : Fx Tryz.prog 36 [.pointer pp, .pointer wp, .pointer fp] w [] no (fun v L => ∃ s, v = .pointer (some ⟨s, 0, none⟩) ∧ L = [Blk s (.cells (slC pp wp fp none 1 0 0 0) 151 (0, 0))]) := by
 refine Sv.Fx.body Tryz.func36 rfl T36 rfl ?_
 intro I hro hI
 refine KV.e3 0 1 2 (CV.seq (CV.region ?_))
 refine RV.a rfl rfl ?_
 refine RV.nil (KV.then_n (KV.e3 0 1 2 (CV.seq (CV.region ?_))))
 refine RV.m rfl rfl (RV.m rfl rfl (RV.m rfl rfl (RV.s (Step.build rfl (Bd151_0_1_2_4 _ _ _ _)) rfl ?_)))
 refine RV.op (OV.box (t := 151) #[_, _, _, _, _, _, _, _] rfl rfl gno rfl (fun b1_4 => ?_))
 refine RV.a rfl rfl ?_
 refine RV.nil (KV.then_n (KV.e1 6 (CV.ret ?_)))
 refine KV.sel [0] [_] rfl ?_
 exact KV.ret1 rfl rfl _ (fun _ h => h) ⟨_, rfl, rfl⟩

set_option maxRecDepth 100000 in
set_option maxHeartbeats 1000000 in
theorem sleepState_fn (x : Int) (h1 : 1 ≤ x) (h2 : x ≤ 4) : FxP Tryz.prog 61 [.int .i64 x] (.bool true) := by
 refine Sv.FxP.body Tryz.func61 rfl T61 rfl ?_
 intro wp
 refine KV.e1 0 (CV.seq (CV.region ?_))
 refine RV.a rfl rfl ?_
 refine RV.nil (KV.then_n (KV.e1 0 (CV.seq (CV.region ?_))))
 refine RV.m rfl rfl ?_
 refine RV.op (OV.split gno (Step.geq rfl rfl) rfl (fun e1 => ?_) (fun e1 => ?_))
 ·
  refine RV.m rfl rfl (RV.gw rfl (Step.move rfl) rfl ?_)
  refine RV.op (OV.split (gyes rfl) (Step.leq rfl rfl) rfl (fun e2 => ?_) (fun e2 => ?_))
  ·
   refine RV.s (Step.pick_t rfl rfl) rfl (RV.a rfl rfl ?_)
   refine RV.nil (KV.then_n (KV.e1 2 (CV.ret ?_)))
   exact KV.retP1 rfl rfl rfl
  ·
   exfalso; omega
 ·
  exfalso; omega

set_option maxRecDepth 100000 in
set_option maxHeartbeats 1000000 in
theorem examine_fn (s w0 q : Nat) (n : Int) (ar : Bool) (ck : Int) (pp fp : Option Addr) (sy la ea : Int) (A : Option Addr) (c : Nat) (rest : List Value) (now : Int) {w : World} : Fx Tryz.prog 70 [.pointer (some ⟨s, 0, none⟩), .int .u64 now] w [Blk s (.cells (slC pp (some ⟨w0, 0, none⟩) fp (some ⟨q, 0, none⟩) 3 sy la ea) 151 (0, 0)), Blk w0 (.cells (srcA n ar ck) 188 (0, 0)), Blk q (.cells (sqC A c 2 rest) 242 (0, 0))] no (fun v L => v = .tuple #[] ∧ L = [Blk s (.cells (slC pp (some ⟨w0, 0, none⟩) fp (some ⟨q, 0, none⟩) 4 sy la ea) 151 (0, 0)), Blk w0 (.cells (srcA n ar ck) 188 (0, 0)), Blk q (.cells (sqC A c 2 rest) 242 (0, 0))]) := by
 refine Sv.Fx.body Tryz.func70 rfl T70 rfl ?_
 intro I hro hI
 refine KV.e2 0 1 (CV.seq (CV.seq (CV.region ?_)))
 refine RV.m rfl rfl (RV.s (Step.nilCheck rfl) rfl (RV.s (Step.fieldAddr rfl (F151_3 _ _)) rfl (RV.s (Step.load Tryz.underlying149 rfl rfl (fun w h => h.cell 0 rfl rfl)) rfl ?_)))
 refine RV.op (OV.call [] (F := [_, _, _]) Tryz.func98 B98 N98 rfl rfl (fun w h => asleep_fn q (h.blk 2 rfl)) (fun _ hb => hb.elim) gno rfl (fun v L' hp => ?_))
 obtain ⟨rfl, rfl⟩ := hp
 simp only [List.append_nil]
 refine RV.m rfl rfl (RV.gw rfl (Step.move rfl) rfl (RV.gw rfl (Step.nilCheck rfl) rfl (RV.gw rfl (Step.fieldAddr rfl (F151_4 _ _)) rfl (RV.gw rfl (Step.load Tryz.underlying3 rfl rfl (fun w h => h.cell 0 rfl rfl)) rfl (RV.gw rfl (Step.eql rfl rfl) rfl (RV.s (Step.pick_t rfl rfl) rfl ?_))))))
 refine RV.nil (KV.then_n (KV.e3 0 1 17 (CV.cond_t rfl (CV.seq (CV.region ?_)))))
 refine RV.m rfl rfl (RV.s (Step.nilCheck rfl) rfl (RV.s (Step.fieldAddr rfl (F151_1 _ _)) rfl (RV.s (Step.load Tryz.underlying74 rfl rfl (fun w h => h.cell 0 rfl rfl)) rfl ?_)))
 refine RV.op (OV.call [] (F := [_, _, _]) Tryz.func68 B68 N68 rfl rfl (fun w h => mustAbort_fn w0 (h.blk 1 rfl)) (fun _ hb => hb.elim) gno rfl (fun v L' hp => ?_))
 obtain ⟨rfl, rfl⟩ := hp
 simp only [List.append_nil]
 refine RV.nil (KV.then_n (KV.e3 0 1 22 (CV.cond_f rfl (CV.region ?_))))
 refine RV.m rfl rfl (RV.s (Step.nilCheck rfl) rfl (RV.s (Step.fieldAddr rfl (F151_4 _ _)) rfl ?_))
 refine RV.op (OV.store 0 [_] #[_, _, _, _, _, _, _, _] I3 rfl rfl rfl rfl rfl (Nat.le_of_ble_eq_true rfl) (by simp [Value.oneCell']) rfl gno ?_)
 refine RV.nil (KV.then_n (KV.e2 0 1 (CV.seq (CV.region ?_))))
 refine RV.m rfl rfl (RV.s (Step.nilCheck rfl) rfl (RV.s (Step.fieldAddr rfl (F151_3 _ _)) rfl (RV.s (Step.load Tryz.underlying149 rfl rfl (fun w h => h.cell 0 rfl rfl)) rfl ?_)))
 refine RV.op (OV.call [] (F := [_, _, _]) Tryz.func100 B100 N100 rfl rfl (fun w h => result_fn q (h.blk 2 rfl)) (fun _ hb => hb.elim) gno rfl (fun v L' hp => ?_))
 obtain ⟨rfl, rfl⟩ := hp
 simp only [List.append_nil]
 refine RV.m rfl rfl (RV.s (Step.extract0 rfl rfl) rfl (RV.s (Step.extract0 rfl rfl) rfl (RV.a rfl rfl (RV.a rfl rfl ?_))))
 refine RV.nil (KV.then_n (KV.e4 0 1 4 5 (CV.seq (CV.seq (CV.region ?_)))))
 refine RV.m rfl rfl (RV.s (Step.not rfl) rfl ?_)
 refine RV.nil (KV.then_n (KV.e4 0 1 4 37 (CV.cond_t rfl (CV.ret (KV.then_ret ?_)))))
 refine KV.sel [0, 0, 0] [_, _, _] rfl ?_
 exact KV.ret0 rfl _ (fun _ h => h) ⟨rfl, rfl⟩

set_option maxRecDepth 100000 in
set_option maxHeartbeats 1000000 in
theorem begin_fn (s w0 p : Nat) (n : Int) (ar : Bool) (ck : Int) (fp sp tp mp bp : Option Addr) (oA : Option Addr) (oc : Nat) (sy la ea : Int) (now : Int) {w : World} : Fx Tryz.prog 96 [.pointer (some ⟨s, 0, none⟩), .int .u64 now] w [Blk s (.cells (slC (some ⟨p, 0, none⟩) (some ⟨w0, 0, none⟩) fp sp 2 sy la ea) 151 (0, 0)), Blk w0 (.cells (srcA n ar ck) 188 (0, 0)), Blk p (.cells #[.slice none 0 0, .pointer tp, .pointer mp, .pointer bp, .slice oA 0 oc] 170 (0, 0))] no (fun v L => v = .tuple #[] ∧ ∃ q A c rest, L = [Blk s (.cells (slC (some ⟨p, 0, none⟩) (some ⟨w0, 0, none⟩) fp (some ⟨q, 0, none⟩) 4 sy la ea) 151 (0, 0)), Blk w0 (.cells (srcA n ar ck) 188 (0, 0)), Blk p (.cells #[.slice none 0 0, .pointer tp, .pointer mp, .pointer bp, .slice oA 0 oc] 170 (0, 0)), Blk q (.cells (sqC A c 2 rest) 242 (0, 0))]) := by
 refine Sv.Fx.body Tryz.func96 rfl T96 rfl ?_
 intro I hro hI
 refine KV.e2 0 1 (CV.seq (CV.region ?_))
 refine RV.m rfl rfl (RV.s (Step.nilCheck rfl) rfl (RV.s (Step.fieldAddr rfl (F151_0 _ _)) rfl (RV.s (Step.load Tryz.underlying67 rfl rfl (fun w h => h.cell 0 rfl rfl)) rfl ?_)))
 refine RV.op (OV.call [] (F := [_, _, _]) Tryz.func133 B133 N133 rfl rfl (fun w h => order_fn p (h.blk 2 rfl)) (fun _ hb => hb.elim) gno rfl (fun v L' hp => ?_))
 obtain ⟨Ao, co, rfl, rfl⟩ := hp
 simp only [List.append_nil]
 refine RV.op (OV.call [] (F := [_, _, _]) Tryz.func132 B132 N132 rfl rfl (fun w h => suspNew_fn Ao co) (fun _ hb => hb.elim) gno rfl (fun v L' hp => ?_))
 obtain ⟨q, Aq, cq, rest, rfl, rfl⟩ := hp
 refine RV.m rfl rfl (RV.s (Step.extract0 rfl rfl) rfl (RV.s (Step.extract0 rfl rfl) rfl (RV.a rfl rfl (RV.a rfl rfl ?_))))
 refine RV.nil (KV.then_n (KV.e4 0 1 4 5 (CV.seq (CV.seq (CV.region ?_)))))
 refine RV.m rfl rfl (RV.s (Step.neq rfl rfl) rfl ?_)
 refine RV.nil (KV.then_n (KV.e5 0 1 4 5 16 (CV.cond_f rfl (CV.skip (KV.then_n ?_)))))
 refine KV.e3 0 1 4 (CV.seq (CV.region ?_))
 refine RV.m rfl rfl (RV.m rfl rfl (RV.s (Step.nilCheck rfl) rfl (RV.s (Step.fieldAddr rfl (F151_3 _ _)) rfl ?_)))
 refine RV.op (OV.store 0 [_] #[_, _, _, _, _, _, _, _] I149 rfl rfl rfl rfl rfl (Nat.le_of_ble_eq_true rfl) (by simp [Value.oneCell']) rfl gno ?_)
 refine RV.nil (KV.then_n (KV.e2 0 1 (CV.seq (CV.region ?_))))
 refine RV.m rfl rfl (RV.s (Step.nilCheck rfl) rfl (RV.s (Step.fieldAddr rfl (F151_4 _ _)) rfl ?_))
 refine RV.op (OV.store 0 [_] #[_, _, _, _, _, _, _, _] I3 rfl rfl rfl rfl rfl (Nat.le_of_ble_eq_true rfl) (by simp [Value.oneCell']) rfl gno ?_)
 refine RV.nil (KV.then_n (KV.e2 0 1 (CV.region ?_)))
 refine RV.m rfl rfl (RV.m rfl rfl ?_)
 refine RV.op (OV.call [0, 0, 1] (F := [_]) Tryz.func70 B70 N70 rfl rfl (fun w h => examine_fn s w0 q n ar ck _ fp sy la ea Aq cq rest now) (fun _ hb => hb.elim) gno rfl (fun v L' hp => ?_))
 obtain ⟨rfl, rfl⟩ := hp
 refine RV.nil ?_
 refine KV.sel [1, 1, 0, 0] [_, _, _, _] rfl ?_
 exact KV.ret0 rfl _ (fun _ h => h) ⟨rfl, _, _, _, _, rfl⟩

set_option maxRecDepth 100000 in
set_option maxHeartbeats 1000000 in
theorem sfreeze_fn (s w0 p f : Nat) (n : Int) (ar : Bool) (ck : Int) (sp tp mp bp : Option Addr) (oA : Option Addr) (oc : Nat) (sy la ea : Int) (fA : Option Addr) (fc : Nat) (es : List Int) (hl : es.length ≤ 64) (fk dl : Int) (now : Int) (h1 : fk ≤ now) (h2 : now ≤ 1152921504606846976) {w : World} : Fx Tryz.prog 66 [.pointer (some ⟨s, 0, none⟩), .int .u64 now] w [Blk s (.cells (slC (some ⟨p, 0, none⟩) (some ⟨w0, 0, none⟩) (some ⟨f, 0, none⟩) sp 2 sy la ea) 151 (0, 0)), Blk w0 (.cells (srcA n ar ck) 188 (0, 0)), Blk p (.cells #[.slice none 0 0, .pointer tp, .pointer mp, .pointer bp, .slice oA 0 oc] 170 (0, 0)), Blk f (.cells (frC 2 fk dl fA es.length fc) 148 (0, 0)), OS 24 (intK .u64) fA fc es] no (fun v L => v = .tuple #[] ∧ ∃ q A c rest, L = [Blk s (.cells (slC (some ⟨p, 0, none⟩) (some ⟨w0, 0, none⟩) (some ⟨f, 0, none⟩) (some ⟨q, 0, none⟩) 4 sy la ea) 151 (0, 0)), Blk w0 (.cells (srcA n ar ck) 188 (0, 0)), Blk p (.cells #[.slice none 0 0, .pointer tp, .pointer mp, .pointer bp, .slice oA 0 oc] 170 (0, 0)), Blk f (.cells (frC 2 now dl fA es.length fc) 148 (0, 0)), OS 24 (intK .u64) fA fc es, Blk q (.cells (sqC A c 2 rest) 242 (0, 0))]) := by
 refine Sv.Fx.body Tryz.func66 rfl T66 rfl ?_
 intro I hro hI
 refine KV.e2 0 1 (CV.seq (CV.region ?_))
 refine RV.m rfl rfl (RV.s (Step.nilCheck rfl) rfl (RV.s (Step.fieldAddr rfl (F151_2 _ _)) rfl (RV.s (Step.load Tryz.underlying75 rfl rfl (fun w h => h.cell 0 rfl rfl)) rfl (RV.m rfl rfl ?_))))
 refine RV.op (OV.call [3, 3] (F := [_, _, _]) Tryz.func93 B93 N93 rfl rfl (fun w h => frAdv2_fn f fA fc es hl fk dl now h1 h2) (fun _ hb => hb.elim) gno rfl (fun v L' hp => ?_))
 obtain ⟨rfl, rfl⟩ := hp
 refine RV.m rfl rfl (RV.s (Step.extract0 rfl rfl) rfl (RV.s (Step.extract0 rfl rfl) rfl (RV.a rfl rfl (RV.a rfl rfl ?_))))
 refine RV.nil (KV.then_n (KV.e4 0 1 4 5 (CV.block (CV.seq (CV.region ?_)))))
 refine RV.m rfl rfl (RV.s (Step.neq rfl rfl) rfl (RV.a rfl rfl ?_))
 refine RV.nil (KV.then_n (KV.e5 0 1 4 5 15 (CV.cond_f rfl (CV.seq (CV.region ?_)))))
 refine RV.m rfl rfl (RV.a rfl rfl ?_)
 refine RV.nil (KV.then_n (KV.e3 0 1 22 (CV.cond_t rfl (CV.region ?_))))
 refine RV.m rfl rfl (RV.m rfl rfl ?_)
 refine RV.op (OV.call [0, 0, 0] (F := [_, _]) Tryz.func96 B96 N96 rfl rfl (fun w h => begin_fn s w0 p n ar ck _ sp tp mp bp oA oc sy la ea now) (fun _ hb => hb.elim) gno rfl (fun v L' hp => ?_))
 obtain ⟨rfl, q, Aq, cq, rest, rfl⟩ := hp
 refine RV.nil (KV.block_n ?_)
 refine KV.sel [2, 2, 2, 0, 0, 0] [_, _, _, _, _, _] rfl ?_
 exact KV.ret0 rfl _ (fun _ h => h) ⟨rfl, _, _, _, _, rfl⟩

set_option maxRecDepth 100000 in
set_option maxHeartbeats 1000000 in
theorem sbegin_fn (s w0 p f n : Nat) (hn : n ≤ 32) (ar : Bool) (ck : Int) (sp tp mp bp : Option Addr) (oA : Option Addr) (oc : Nat) (sy la ea : Int) (fA : Option Addr) (fc : Nat) (es : List Int) (hl : es.length ≤ 64) (fk dl : Int) (sys now to : Int) (h1 : fk ≤ now) (h1c : ck ≤ now) (h0 : 0 ≤ now) (h0t : 0 ≤ to) (h2 : now + to ≤ 1152921504606846976) (hs1 : 1 ≤ sys) (hs2 : sys ≤ 4) (hal : allLe es (min now (now + to)) es.length = true) {w : World} : Fx Tryz.prog 28 [.pointer (some ⟨s, 0, none⟩), .int .i64 sys, .int .u64 now, .int .u64 to] w [Blk s (.cells (slC (some ⟨p, 0, none⟩) (some ⟨w0, 0, none⟩) (some ⟨f, 0, none⟩) sp 1 sy la ea) 151 (0, 0)), Blk w0 (.cells (srcA n ar ck) 188 (0, 0)), Blk p (.cells #[.slice none 0 0, .pointer tp, .pointer mp, .pointer bp, .slice oA 0 oc] 170 (0, 0)), Blk f (.cells (frC 0 fk dl fA es.length fc) 148 (0, 0)), OS 24 (intK .u64) fA fc es] no (fun v L => v = .int .i64 0 ∧ ∃ q A c rest, L = [Blk s (.cells (slC (some ⟨p, 0, none⟩) (some ⟨w0, 0, none⟩) (some ⟨f, 0, none⟩) (some ⟨q, 0, none⟩) 4 sys la 0) 151 (0, 0)), Blk w0 (.cells (srcA n true now) 188 (0, 0)), Blk p (.cells #[.slice none 0 0, .pointer tp, .pointer mp, .pointer bp, .slice oA 0 oc] 170 (0, 0)), Blk f (.cells (frC 2 now (now + to) fA es.length fc) 148 (0, 0)), OS 24 (intK .u64) fA fc es, Blk q (.cells (sqC A c 2 rest) 242 (0, 0))]) := by
 refine Sv.Fx.body Tryz.func28 rfl T28 rfl ?_
 intro I hro hI
 refine KV.e4 0 1 2 3 ?_
 have hE : adE es (now + to) now = 0 := by unfold adE; rw [if_pos hal]
 have hS : adS es (now + to) now = 2 := by unfold adS; rw [if_pos hal]
 refine CV.seq (CV.region ?_)
 refine RV.a rfl rfl ?_
 refine RV.nil (KV.then_n (KV.e4 0 1 2 3 (CV.seq (CV.seq (CV.region ?_)))))
 refine RV.m rfl rfl (RV.s (Step.nilCheck rfl) rfl (RV.s (Step.fieldAddr rfl (F151_4 _ _)) rfl (RV.s (Step.load Tryz.underlying3 rfl rfl (fun w h => h.cell 0 rfl rfl)) rfl (RV.s (Step.neq rfl rfl) rfl ?_))))
 refine RV.nil (KV.then_n (KV.e5 0 1 2 3 16 (CV.cond_f rfl (CV.skip (KV.then_n ?_)))))
 refine KV.e4 0 1 2 3 (CV.seq (CV.seq (CV.region ?_)))
 refine RV.m rfl rfl ?_
 refine RV.op (OV.callP Tryz.func61 B61 N61 rfl (sleepState_fn sys hs1 hs2) gno rfl ?_)
 refine RV.s (Step.not rfl) rfl (RV.m rfl rfl (RV.gw rfl (Step.move rfl) rfl ?_))
 refine RV.op (OV.split (gyes rfl) (Step.gtr rfl rfl) rfl (fun e1 => ?_) (fun e1 => ?_))
 ·
  exfalso; omega
 ·
  refine RV.s (Step.pick_f rfl rfl) rfl (RV.m rfl rfl (RV.gw rfl (Step.move rfl) rfl (RV.gw rfl (Step.move rfl) rfl ?_)))
  (first | refine RV.op (OV.step (gyes rfl) (Step.sub rfl rfl (wU64 (by omega) (by omega))) rfl ?_) | refine RV.op (OV.step (gyes rfl) (Step.sub rfl rfl rfl) rfl ?_))
  refine RV.op (OV.split (gyes rfl) (Step.gtr rfl rfl) rfl (fun e2 => ?_) (fun e2 => ?_))
  ·
   exfalso; omega
  ·
   refine RV.s (Step.pick_f rfl rfl) rfl ?_
   refine RV.nil (KV.then_n (KV.e5 0 1 2 3 29 (CV.cond_f rfl (CV.skip (KV.then_n ?_)))))
   refine KV.e4 0 1 2 3 (CV.seq (CV.region ?_))
   refine RV.m rfl rfl (RV.s (Step.nilCheck rfl) rfl (RV.s (Step.fieldAddr rfl (F151_1 _ _)) rfl (RV.s (Step.load Tryz.underlying74 rfl rfl (fun w h => h.cell 0 rfl rfl)) rfl ?_)))
   refine RV.op (OV.call [] (F := [_, _, _, _, _]) Tryz.func62 B62 N62 rfl rfl (fun w h => counts_fn w0 (h.blk 1 rfl)) (fun _ hb => hb.elim) gno rfl (fun v L' hp => ?_))
   obtain ⟨rfl, rfl⟩ := hp
   simp only [List.append_nil]
   refine RV.m rfl rfl (RV.s (Step.extract0 rfl rfl) rfl (RV.s (Step.extract0 rfl rfl) rfl (RV.a rfl rfl (RV.a rfl rfl ?_))))
   refine RV.nil (KV.then_n (KV.e5 0 1 2 3 9 (CV.seq (CV.seq (CV.region ?_)))))
   refine RV.m rfl rfl (RV.s (Step.nilCheck rfl) rfl (RV.s (Step.fieldAddr rfl (F151_1 _ _)) rfl (RV.s (Step.load Tryz.underlying74 rfl rfl (fun w h => h.cell 0 rfl rfl)) rfl (RV.m rfl rfl (RV.m rfl rfl ?_)))))
   refine RV.op (OV.call [1] (F := [_, _, _, _]) Tryz.func63 B63 N63 rfl rfl (fun w h => arm_fn w0 n hn ar ck now h1c (by omega)) (fun _ hb => hb.elim) gno rfl (fun v L' hp => ?_))
   obtain ⟨rfl, rfl⟩ := hp
   refine RV.s (Step.neq rfl rfl) rfl ?_
   refine RV.nil (KV.then_n (KV.e5 0 1 2 3 45 (CV.cond_f rfl (CV.skip (KV.then_n ?_)))))
   refine KV.e4 0 1 2 3 (CV.seq (CV.region ?_))
   refine RV.m rfl rfl (RV.m rfl rfl (RV.s (Step.nilCheck rfl) rfl (RV.s (Step.fieldAddr rfl (F151_5 _ _)) rfl ?_)))
   refine RV.op (OV.store 0 [_] #[_, _, _, _, _, _, _, _] I3 rfl rfl rfl rfl rfl (Nat.le_of_ble_eq_true rfl) (by simp [Value.oneCell']) rfl gno ?_)
   refine RV.nil (KV.then_n (KV.e3 0 2 3 (CV.seq (CV.region ?_))))
   refine RV.m rfl rfl (RV.s (Step.nilCheck rfl) rfl (RV.s (Step.fieldAddr rfl (F151_7 _ _)) rfl ?_))
   refine RV.op (OV.store 0 [_] #[_, _, _, _, _, _, _, _] I28 rfl rfl rfl rfl rfl (Nat.le_of_ble_eq_true rfl) (by simp [Value.oneCell']) rfl gno ?_)
   refine RV.nil (KV.then_n (KV.e3 0 2 3 (CV.seq (CV.seq (CV.region ?_)))))
   refine RV.m rfl rfl (RV.s (Step.nilCheck rfl) rfl (RV.s (Step.fieldAddr rfl (F151_2 _ _)) rfl (RV.s (Step.load Tryz.underlying75 rfl rfl (fun w h => h.cell 0 rfl rfl)) rfl (RV.m rfl rfl (RV.m rfl rfl (RV.m rfl rfl ?_))))))
   (first | refine RV.op (OV.step gno (Step.add rfl rfl (wU64 (by omega) (by omega))) rfl ?_) | refine RV.op (OV.step gno (Step.add rfl rfl rfl) rfl ?_))
   refine RV.op (OV.call [2, 2] (F := [_, _, _]) Tryz.func64 B64 N64 rfl rfl (fun w h => freeze_fn f fA fc es hl fk dl (now + to) now h1 (by omega) (by omega) (by omega)) (fun _ hb => hb.elim) gno rfl (fun v L' hp => ?_))
   obtain ⟨rfl, rfl⟩ := hp
   rw [hE, hS]
   refine RV.a rfl rfl ?_
   refine RV.nil (KV.then_n (KV.e3 0 2 11 (CV.seq (CV.region ?_))))
   refine RV.m rfl rfl (RV.s (Step.neq rfl rfl) rfl ?_)
   refine RV.nil (KV.then_n (KV.e4 0 2 11 63 (CV.cond_f rfl (CV.skip (KV.then_n ?_)))))
   refine KV.e2 0 2 (CV.seq (CV.region ?_))
   refine RV.m rfl rfl (RV.s (Step.nilCheck rfl) rfl (RV.s (Step.fieldAddr rfl (F151_4 _ _)) rfl ?_))
   refine RV.op (OV.store 0 [_] #[_, _, _, _, _, _, _, _] I3 rfl rfl rfl rfl rfl (Nat.le_of_ble_eq_true rfl) (by simp [Value.oneCell']) rfl gno ?_)
   refine RV.nil (KV.then_n (KV.e2 0 2 (CV.seq (CV.region ?_))))
   refine RV.m rfl rfl (RV.m rfl rfl ?_)
   refine RV.op (OV.call [0, 1, 0, 0, 0] (F := []) Tryz.func66 B66 N66 rfl rfl (fun w h => sfreeze_fn s w0 p f n true now sp tp mp bp oA oc sys la 0 fA fc es hl now (now + to) now (by omega) (by omega)) (fun _ hb => hb.elim) gno rfl (fun v L' hp => ?_))
   obtain ⟨rfl, q, Aq, cq, rest, rfl⟩ := hp
   refine RV.nil (KV.then_n (KV.env [] trivial (CV.seq (CV.region ?_))))
   refine RV.a rfl rfl ?_
   refine RV.nil (KV.then_n (KV.e1 8 (CV.ret ?_)))
   refine KV.sel [0, 0, 0, 0, 0, 0] [_, _, _, _, _, _] rfl ?_
   exact KV.ret1 rfl rfl _ (fun _ h => h) ⟨rfl, _, _, _, _, rfl⟩

set_option maxRecDepth 100000 in
set_option maxHeartbeats 1000000 in
theorem mode_fn (s : Nat) {pp wp fp sp : Option Addr} {md sy la ea : Int} {fz : Nat × Nat} {w : World} (hb : w.heap[s]? = some (.cells (slC pp wp fp sp md sy la ea) 151 fz)) : Fx Tryz.prog 30 [.pointer (some ⟨s, 0, none⟩)] w [] no (fun v L => v = .int .i64 md ∧ L = []) := by
 refine Sv.Fx.body Tryz.func30 rfl T30 rfl ?_
 intro I hro hI
 refine KV.e1 0 (CV.seq (CV.region ?_))
 refine RV.a rfl rfl ?_
 refine RV.nil (KV.then_n (KV.e1 0 (CV.seq (CV.region ?_))))
 refine RV.m rfl rfl (RV.s (Step.nilCheck rfl) rfl (RV.s (Step.fieldAddr rfl (F151_4 _ _)) rfl (RV.s (Step.load Tryz.underlying3 rfl rfl (fun w h => (cell_of (h.ro hb (hI s)) 4).trans rfl)) rfl (RV.a rfl rfl ?_))))
 refine RV.nil (KV.then_n (KV.e1 2 (CV.ret ?_)))
 refine KV.sel [] [] rfl ?_
 exact KV.ret1 rfl rfl _ (fun _ h => h) ⟨rfl, rfl⟩

set_option maxRecDepth 100000 in
set_option maxHeartbeats 1000000 in
theorem system_fn (s : Nat) {pp wp fp sp : Option Addr} {md sy la ea : Int} {fz : Nat × Nat} {w : World} (hb : w.heap[s]? = some (.cells (slC pp wp fp sp md sy la ea) 151 fz)) : Fx Tryz.prog 37 [.pointer (some ⟨s, 0, none⟩)] w [] no (fun v L => v = .int .i64 sy ∧ L = []) := by
 refine Sv.Fx.body Tryz.func37 rfl T37 rfl ?_
 intro I hro hI
 refine KV.e1 0 (CV.seq (CV.region ?_))
 refine RV.a rfl rfl ?_
 refine RV.nil (KV.then_n (KV.e1 0 (CV.seq (CV.region ?_))))
 refine RV.m rfl rfl (RV.s (Step.nilCheck rfl) rfl (RV.s (Step.fieldAddr rfl (F151_5 _ _)) rfl (RV.s (Step.load Tryz.underlying3 rfl rfl (fun w h => (cell_of (h.ro hb (hI s)) 5).trans rfl)) rfl (RV.a rfl rfl ?_))))
 refine RV.nil (KV.then_n (KV.e1 2 (CV.ret ?_)))
 refine KV.sel [] [] rfl ?_
 exact KV.ret1 rfl rfl _ (fun _ h => h) ⟨rfl, rfl⟩

set_option maxRecDepth 100000 in
set_option maxHeartbeats 1000000 in
theorem last_fn (s : Nat) {pp wp fp sp : Option Addr} {md sy la ea : Int} {fz : Nat × Nat} {w : World} (hb : w.heap[s]? = some (.cells (slC pp wp fp sp md sy la ea) 151 fz)) : Fx Tryz.prog 31 [.pointer (some ⟨s, 0, none⟩)] w [] no (fun v L => v = .int .i64 la ∧ L = []) := by
 refine Sv.Fx.body Tryz.func31 rfl T31 rfl ?_
 intro I hro hI
 refine KV.e1 0 (CV.seq (CV.region ?_))
 refine RV.a rfl rfl ?_
 refine RV.nil (KV.then_n (KV.e1 0 (CV.seq (CV.region ?_))))
 refine RV.m rfl rfl (RV.s (Step.nilCheck rfl) rfl (RV.s (Step.fieldAddr rfl (F151_6 _ _)) rfl (RV.s (Step.load Tryz.underlying28 rfl rfl (fun w h => (cell_of (h.ro hb (hI s)) 6).trans rfl)) rfl (RV.a rfl rfl ?_))))
 refine RV.nil (KV.then_n (KV.e1 2 (CV.ret ?_)))
 refine KV.sel [] [] rfl ?_
 exact KV.ret1 rfl rfl _ (fun _ h => h) ⟨rfl, rfl⟩
end Go.Proofs.YtdfkpdcpegcieaaGreatDoor
