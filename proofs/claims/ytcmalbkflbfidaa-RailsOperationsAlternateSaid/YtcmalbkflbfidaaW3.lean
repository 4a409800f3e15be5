/-
  Walks, part 3.
-/
import Derived.Test.YtcmalbkflbfidaaTab3
import Derived.Test.YtcmalbkflbfidaaMdl2
set_option linter.unusedSimpArgs false
set_option linter.unusedVariables false
namespace Go.Proofs.Ytcmalbkflbfidaa
open Go.Sv Go.Rails
set_option maxRecDepth 100000 in
set_option maxHeartbeats 1000000 in
theorem cloneRail_fn {A : Option Addr} {n c : Nat} {ys : List Rail} {w : World} (hr : RS w railK A ys) (hl : ys.length ≤ 1000000) (hn : n = ys.length) : Fx Try.prog 34 [.slice A n c] w [] no (fun v L => ∃ A2 c2, v = .slice A2 n c2 ∧ L = [OS 35 railK A2 c2 ys]) := by
  subst hn
  refine Sv.Fx.body Try.func34 rfl T34 rfl ?_
  intro I hro hI
  refine KV.env [(0, _)] ⟨rfl, trivial⟩ ?_
  refine CV.seq ?_
  -- region 0 slices.go:355
  refine CV.region ?_
  refine RV.op (OV.step gno (Step.assign rfl) rfl ?_)
  refine RV.nil ?_
  refine KV.then_n ?_
  refine KV.env [(0, _)] ⟨rfl, trivial⟩ ?_
  refine CV.seq ?_
  refine CV.seq ?_
  -- region 1 slices.go:357
  refine CV.region ?_
  refine RV.op (OV.step gno (Step.move rfl) rfl ?_)
  refine RV.op (OV.split gno (Step.nilSl Try.underlying22 rfl rfl) rfl (fun hnil => ?_) (fun hnil => ?_))
  · -- True
    subst hnil
    obtain rfl := RS.nil_of hr
    refine RV.nil ?_
    refine KV.then_n ?_
    refine KV.env [(0, _), (4, _)] ⟨rfl, rfl, trivial⟩ ?_
    refine CV.cond_t rfl ?_
    refine CV.seq ?_
    -- region 2 slices.go:358
    refine CV.region ?_
    refine RV.op (OV.step gno (Step.assign rfl) rfl ?_)
    refine RV.nil ?_
    refine KV.then_n ?_
    refine KV.env [(2, _)] ⟨rfl, trivial⟩ ?_
    refine CV.ret ?_
    refine KV.then_ret ?_
    -- return at r2
    exact KV.ret1 rfl rfl _ (fun _ h => h.nilOS) ⟨none, 0, rfl, rfl⟩
  · -- False
    refine RV.nil ?_
    refine KV.then_n ?_
    refine KV.env [(0, _), (4, _)] ⟨rfl, rfl, trivial⟩ ?_
    refine CV.cond_f rfl ?_
    refine CV.skip ?_
    refine KV.then_n ?_
    refine KV.env [(0, _)] ⟨rfl, trivial⟩ ?_
    refine CV.seq ?_
    -- region 3 slices.go:362
    refine CV.region ?_
    refine RV.op (OV.buildSlice (K := railK) ([]) rfl (Bs22_0_) rfl rfl (by omega) gno rfl (fun b3_0 => ?_))
    refine RV.op (OV.step gno (Step.move rfl) rfl ?_)
    refine RV.op (OV.append 0 Try.underlying22 I35 rfl rfl rfl rfl rfl rfl (fun w h => h.rs hr (fun _ => hI _)) (by simp only [List.length_nil]; omega) (by simp only [List.length_nil]; omega) gno rfl (fun b3_2a b3_2c => ?_))
    refine RV.op (OV.step gno (Step.assign rfl) rfl ?_)
    refine RV.nil ?_
    refine KV.then_n ?_
    refine KV.env [(2, _)] ⟨rfl, trivial⟩ ?_
    refine CV.ret ?_
    -- return at r3
    exact KV.ret1 rfl rfl _ (fun _ h => h) ⟨_, _, rfl, rfl⟩

set_option maxRecDepth 100000 in
set_option maxHeartbeats 1000000 in
theorem cloneInt_fn {A : Option Addr} {n c : Nat} {ys : List Int} {w : World} (hr : RS w (intK .i64) A ys) (hl : ys.length ≤ 1000000) (hn : n = ys.length) : Fx Try.prog 38 [.slice A n c] w [] no (fun v L => ∃ A2 c2, v = .slice A2 n c2 ∧ L = [OS 3 (intK .i64) A2 c2 ys]) := by
  subst hn
  refine Sv.Fx.body Try.func38 rfl T38 rfl ?_
  intro I hro hI
  refine KV.env [(0, _)] ⟨rfl, trivial⟩ ?_
  refine CV.seq ?_
  -- region 0 slices.go:355
  refine CV.region ?_
  refine RV.op (OV.step gno (Step.assign rfl) rfl ?_)
  refine RV.nil ?_
  refine KV.then_n ?_
  refine KV.env [(0, _)] ⟨rfl, trivial⟩ ?_
  refine CV.seq ?_
  refine CV.seq ?_
  -- region 1 slices.go:357
  refine CV.region ?_
  refine RV.op (OV.step gno (Step.move rfl) rfl ?_)
  refine RV.op (OV.split gno (Step.nilSl Try.underlying57 rfl rfl) rfl (fun hnil => ?_) (fun hnil => ?_))
  · -- True
    subst hnil
    obtain rfl := RS.nil_of hr
    refine RV.nil ?_
    refine KV.then_n ?_
    refine KV.env [(0, _), (4, _)] ⟨rfl, rfl, trivial⟩ ?_
    refine CV.cond_t rfl ?_
    refine CV.seq ?_
    -- region 2 slices.go:358
    refine CV.region ?_
    refine RV.op (OV.step gno (Step.assign rfl) rfl ?_)
    refine RV.nil ?_
    refine KV.then_n ?_
    refine KV.env [(2, _)] ⟨rfl, trivial⟩ ?_
    refine CV.ret ?_
    refine KV.then_ret ?_
    -- return at r2
    exact KV.ret1 rfl rfl _ (fun _ h => h.nilOS) ⟨none, 0, rfl, rfl⟩
  · -- False
    refine RV.nil ?_
    refine KV.then_n ?_
    refine KV.env [(0, _), (4, _)] ⟨rfl, rfl, trivial⟩ ?_
    refine CV.cond_f rfl ?_
    refine CV.skip ?_
    refine KV.then_n ?_
    refine KV.env [(0, _)] ⟨rfl, trivial⟩ ?_
    refine CV.seq ?_
    -- region 3 slices.go:362
    refine CV.region ?_
    refine RV.op (OV.buildSlice (K := (intK .i64)) ([]) rfl (Bs57_0_) rfl rfl (by omega) gno rfl (fun b3_0 => ?_))
    refine RV.op (OV.step gno (Step.move rfl) rfl ?_)
    refine RV.op (OV.append 0 Try.underlying57 I3 rfl rfl rfl rfl rfl rfl (fun w h => h.rs hr (fun _ => hI _)) (by simp only [List.length_nil]; omega) (by simp only [List.length_nil]; omega) gno rfl (fun b3_2a b3_2c => ?_))
    refine RV.op (OV.step gno (Step.assign rfl) rfl ?_)
    refine RV.nil ?_
    refine KV.then_n ?_
    refine KV.env [(2, _)] ⟨rfl, trivial⟩ ?_
    refine CV.ret ?_
    -- return at r3
    exact KV.ret1 rfl rfl _ (fun _ h => h) ⟨_, _, rfl, rfl⟩

set_option maxRecDepth 100000 in
set_option maxHeartbeats 1000000 in
theorem cloneU_fn {A : Option Addr} {n c : Nat} {ys : List Int} {w : World} (hr : RS w (intK .u64) A ys) (hl : ys.length ≤ 1000000) (hn : n = ys.length) : Fx Try.prog 39 [.slice A n c] w [] no (fun v L => ∃ A2 c2, v = .slice A2 n c2 ∧ L = [OS 33 (intK .u64) A2 c2 ys]) := by
  subst hn
  refine Sv.Fx.body Try.func39 rfl T39 rfl ?_
  intro I hro hI
  refine KV.env [(0, _)] ⟨rfl, trivial⟩ ?_
  refine CV.seq ?_
  -- region 0 slices.go:355
  refine CV.region ?_
  refine RV.op (OV.step gno (Step.assign rfl) rfl ?_)
  refine RV.nil ?_
  refine KV.then_n ?_
  refine KV.env [(0, _)] ⟨rfl, trivial⟩ ?_
  refine CV.seq ?_
  refine CV.seq ?_
  -- region 1 slices.go:357
  refine CV.region ?_
  refine RV.op (OV.step gno (Step.move rfl) rfl ?_)
  refine RV.op (OV.split gno (Step.nilSl Try.underlying43 rfl rfl) rfl (fun hnil => ?_) (fun hnil => ?_))
  · -- True
    subst hnil
    obtain rfl := RS.nil_of hr
    refine RV.nil ?_
    refine KV.then_n ?_
    refine KV.env [(0, _), (4, _)] ⟨rfl, rfl, trivial⟩ ?_
    refine CV.cond_t rfl ?_
    refine CV.seq ?_
    -- region 2 slices.go:358
    refine CV.region ?_
    refine RV.op (OV.step gno (Step.assign rfl) rfl ?_)
    refine RV.nil ?_
    refine KV.then_n ?_
    refine KV.env [(2, _)] ⟨rfl, trivial⟩ ?_
    refine CV.ret ?_
    refine KV.then_ret ?_
    -- return at r2
    exact KV.ret1 rfl rfl _ (fun _ h => h.nilOS) ⟨none, 0, rfl, rfl⟩
  · -- False
    refine RV.nil ?_
    refine KV.then_n ?_
    refine KV.env [(0, _), (4, _)] ⟨rfl, rfl, trivial⟩ ?_
    refine CV.cond_f rfl ?_
    refine CV.skip ?_
    refine KV.then_n ?_
    refine KV.env [(0, _)] ⟨rfl, trivial⟩ ?_
    refine CV.seq ?_
    -- region 3 slices.go:362
    refine CV.region ?_
    refine RV.op (OV.buildSlice (K := (intK .u64)) ([]) rfl (Bs43_0_) rfl rfl (by omega) gno rfl (fun b3_0 => ?_))
    refine RV.op (OV.step gno (Step.move rfl) rfl ?_)
    refine RV.op (OV.append 0 Try.underlying43 I33 rfl rfl rfl rfl rfl rfl (fun w h => h.rs hr (fun _ => hI _)) (by simp only [List.length_nil]; omega) (by simp only [List.length_nil]; omega) gno rfl (fun b3_2a b3_2c => ?_))
    refine RV.op (OV.step gno (Step.assign rfl) rfl ?_)
    refine RV.nil ?_
    refine KV.then_n ?_
    refine KV.env [(2, _)] ⟨rfl, trivial⟩ ?_
    refine CV.ret ?_
    -- return at r3
    exact KV.ret1 rfl rfl _ (fun _ h => h) ⟨_, _, rfl, rfl⟩

set_option maxRecDepth 100000 in
set_option maxHeartbeats 1000000 in
theorem index_fn {A : Option Addr} {n c : Nat} {ys : List Int} (x : Int) {w : World} (hr : RS w (intK .i64) A ys) (hl : ys.length ≤ 1000000) (hn : n = ys.length) : Fx Try.prog 50 [.slice A n c, .int .i64 x] w [] no (fun v L => v = .int .i64 (idxM x ys ys.length) ∧ L = []) := by
  subst hn
  refine Sv.Fx.body Try.func50 rfl T50 rfl ?_
  intro I hro hI
  refine KV.env [(0, _), (1, _)] ⟨rfl, rfl, trivial⟩ ?_
  refine CV.seq ?_
  -- region 0 slices.go:96
  refine CV.region ?_
  refine RV.op (OV.step gno (Step.assign rfl) rfl ?_)
  refine RV.nil ?_
  refine KV.then_n ?_
  refine KV.env [(0, _), (1, _)] ⟨rfl, rfl, trivial⟩ ?_
  refine CV.seq ?_
  refine CV.seq ?_
  -- region 1 slices.go:97
  refine CV.region ?_
  refine RV.op (OV.step gno (Step.move rfl) rfl ?_)
  refine RV.op (OV.step gno (Step.lenSl Try.underlying57 rfl) rfl ?_)
  refine RV.op (OV.step gno (Step.move rfl) rfl ?_)
  refine RV.nil ?_
  refine KV.then_n ?_
  refine KV.env [(0, _), (1, _), (7, _), (8, _)] ⟨rfl, rfl, rfl, rfl, trivial⟩ ?_
  refine CV.block ?_
  -- loop L2; live [0, 1, 7, 8]
  refine KV.sel [] [] rfl ?_
  refine CV.loopI (α := Nat) (fun j => j ≤ ys.length ∧ idxM x ys j = -1) (fun j => ys.length - j) (fun j => [(0, .slice A ys.length c), (1, .int .i64 x), (7, .int .i64 ys.length), (8, .int .i64 j)]) (fun _ => Hp I w []) 0 ⟨Nat.zero_le _, rfl⟩ ⟨rfl, rfl, rfl, rfl, trivial⟩ (fun _ h => h) ?_
  intro j hj
  refine CV.seq ?_
  -- region 2 slices.go:97
  refine CV.region ?_
  refine RV.op (OV.split gno (Step.lss rfl rfl) rfl (fun hlt2 => ?_) (fun hlt2 => ?_))
  · -- True
    refine RV.nil ?_
    refine KV.then_n ?_
    refine KV.env [(0, _), (1, _), (7, _), (8, _), (9, _)] ⟨rfl, rfl, rfl, rfl, rfl, trivial⟩ ?_
    refine CV.seq ?_
    refine CV.cond_t rfl ?_
    refine CV.skip ?_
    refine KV.then_n ?_
    refine KV.env [(0, _), (1, _), (7, _), (8, _)] ⟨rfl, rfl, rfl, rfl, trivial⟩ ?_
    refine CV.seq ?_
    refine CV.block ?_
    refine CV.seq ?_
    -- region 3 slices.go:97
    refine CV.region ?_
    refine RV.op (OV.step gno (Step.move rfl) rfl ?_)
    refine RV.op (OV.step gno (Step.assign rfl) rfl ?_)
    refine RV.nil ?_
    refine KV.then_n ?_
    refine KV.env [(0, _), (1, _), (5, _), (7, _), (8, _)] ⟨rfl, rfl, rfl, rfl, rfl, trivial⟩ ?_
    refine CV.seq ?_
    -- region 4 slices.go:98
    refine CV.region ?_
    refine RV.op (OV.step gno (Step.move rfl) rfl ?_)
    refine RV.op (OV.step gno (Step.move rfl) rfl ?_)
    refine RV.op (OV.step gno (Step.move rfl) rfl ?_)
    refine RV.op (OV.step gno (Step.idx Try.underlying57 I3 (fun w h => h.rs hr (fun _ => hI _)) rfl rfl (rfl) _ rfl (by omega)) rfl ?_)
    (first | refine RV.op (OV.step gno (Step.load Try.underlying3 rfl rfl (fun w h => (h.rs hr (fun _ => hI _)).cell (by omega) rfl)) rfl ?_) | refine RV.op (OV.step gno (Step.load Try.underlying3 rfl rfl (fun w h => (h.rs hr (fun _ => hI _)).cell0 (by omega) rfl)) rfl ?_))
    refine RV.op (OV.split gno (Step.eql rfl rfl) rfl (fun hq => ?_) (fun hq => ?_))
    · -- True
      refine RV.nil ?_
      refine KV.then_n ?_
      refine KV.env [(0, _), (1, _), (5, _), (7, _), (8, _), (16, _)] ⟨rfl, rfl, rfl, rfl, rfl, rfl, trivial⟩ ?_
      refine CV.cond_t rfl ?_
      refine CV.seq ?_
      -- region 5 slices.go:99
      refine CV.region ?_
      refine RV.op (OV.step gno (Step.move rfl) rfl ?_)
      refine RV.op (OV.step gno (Step.assign rfl) rfl ?_)
      refine RV.nil ?_
      refine KV.then_n ?_
      refine KV.env [(4, _)] ⟨rfl, trivial⟩ ?_
      refine CV.ret ?_
      refine KV.block_ret ?_
      refine KV.then_ret ?_
      refine KV.then_ret ?_
      refine KV.block_ret ?_
      refine KV.then_ret ?_
      -- return at r5
      exact KV.ret1 rfl rfl _ (fun _ h => h) ⟨by rw [idxM_stop (k := j) (by omega) hj.2 hq.symm], rfl⟩
    · -- False
      refine RV.nil ?_
      refine KV.then_n ?_
      refine KV.env [(0, _), (1, _), (5, _), (7, _), (8, _), (16, _)] ⟨rfl, rfl, rfl, rfl, rfl, rfl, trivial⟩ ?_
      refine CV.cond_f rfl ?_
      refine CV.skip ?_
      refine KV.block_n ?_
      refine KV.then_n ?_
      refine KV.env [(0, _), (1, _), (7, _), (8, _)] ⟨rfl, rfl, rfl, rfl, trivial⟩ ?_
      -- region 6 slices.go:97
      refine CV.region ?_
      (first | refine RV.op (OV.step gno (Step.add rfl rfl (wI64 (by omega) (by omega))) rfl ?_) | refine RV.op (OV.step gno (Step.add rfl rfl rfl) rfl ?_))
      refine RV.op (OV.step gno (Step.move rfl) rfl ?_)
      refine RV.nil ?_
      refine KV.then_n ?_
      refine KV.env [(0, _), (1, _), (7, _), (8, _)] ⟨rfl, rfl, rfl, rfl, trivial⟩ ?_
      refine KV.sel [] [] rfl ?_
      refine KV.loopI (j + 1) ⟨by omega, by rw [idxM, if_pos hj.2, if_neg (fun e => hq e.symm)]⟩ (by omega) ⟨rfl, rfl, rfl, rfl, trivial⟩ (fun _ h => h)
  · -- False
    obtain rfl : j = ys.length := by omega
    refine RV.nil ?_
    refine KV.then_n ?_
    refine KV.env [(0, _), (1, _), (7, _), (8, _), (9, _)] ⟨rfl, rfl, rfl, rfl, rfl, trivial⟩ ?_
    refine CV.seq ?_
    refine CV.cond_f rfl ?_
    refine CV.exit ?_
    refine KV.then_exit ?_
    refine KV.then_exit ?_
    refine KV.block_hit ?_
    refine KV.then_n ?_
    refine KV.env [] trivial ?_
    refine CV.seq ?_
    -- region 7 slices.go:102
    refine CV.region ?_
    refine RV.op (OV.step gno (Step.assign rfl) rfl ?_)
    refine RV.nil ?_
    refine KV.then_n ?_
    refine KV.env [(4, _)] ⟨rfl, trivial⟩ ?_
    refine CV.ret ?_
    -- return at r7
    exact KV.ret1 rfl rfl _ (fun _ h => h) ⟨by rw [hj.2], rfl⟩

theorem KL : KeyT Try.prog 70 linkV := KeyT.struct Try.underlying70 (fun em x w => by kernel_rfl) (fun x y w => by
  have h := SEQ70 9998 x.con y.con x.sup y.sup w
  rw [show decide (x = y) = decide (x.con = y.con ∧ x.sup = y.sup) from by congr 1; cases x; cases y; simp]
  exact h)

set_option maxRecDepth 100000 in
set_option maxHeartbeats 1000000 in
theorem checkLinks_fn {A : Option Addr} {c : Nat} {links : List Link} (n : Int) {w : World} (hr : RS w linkK A links) (hl : links.length ≤ 1000000) : Fx Try.prog 43 [.int .i64 n, .slice A links.length c] w [] no (fun v L => v = .int .i64 (clM n links) ∧ L = []) := by
  refine Sv.Fx.body Try.func43 rfl T43 rfl ?_
  intro I hro hI
  refine KV.env [(0, _), (1, _)] ⟨rfl, rfl, trivial⟩ ?_
  refine CV.seq ?_
  -- region 0 depgraph.go:117
  refine CV.region ?_
  refine RV.op (OV.step gno (Step.assign rfl) rfl ?_)
  refine RV.nil ?_
  refine KV.then_n ?_
  refine KV.env [(0, _), (1, _)] ⟨rfl, rfl, trivial⟩ ?_
  refine CV.seq ?_
  refine CV.seq ?_
  -- region 1 depgraph.go:118
  refine CV.region ?_
  refine RV.op (OV.step gno (Step.move rfl) rfl ?_)
  refine RV.op (OV.split gno (Step.lss rfl rfl) rfl (fun cc1 => ?_) (fun cc1 => ?_))
  · -- True
    refine RV.op (OV.step gno (Step.move rfl) rfl ?_)
    refine RV.op (OV.skip rfl rfl ?_)
    refine RV.op (OV.skip rfl rfl ?_)
    refine RV.op (OV.step gno (Step.pick_t rfl rfl) rfl ?_)
    refine RV.op (OV.step gno (Step.move rfl) rfl ?_)
    refine RV.op (OV.skip rfl rfl ?_)
    refine RV.op (OV.skip rfl rfl ?_)
    refine RV.op (OV.skip rfl rfl ?_)
    refine RV.op (OV.step gno (Step.pick_t rfl rfl) rfl ?_)
    refine RV.nil ?_
    refine KV.then_n ?_
    refine KV.env [(0, _), (1, _), (20, _)] ⟨rfl, rfl, rfl, trivial⟩ ?_
    refine CV.cond_t rfl ?_
    refine CV.seq ?_
    -- region 2 depgraph.go:119
    refine CV.region ?_
    refine RV.op (OV.step gno (Step.assign rfl) rfl ?_)
    refine RV.nil ?_
    refine KV.then_n ?_
    refine KV.env [(4, _)] ⟨rfl, trivial⟩ ?_
    refine CV.ret ?_
    refine KV.then_ret ?_
    -- return at r2
    refine KV.sel [] [] rfl ?_
    exact KV.ret1 rfl rfl _ (fun _ h => h) ⟨by rw [clM, if_pos (by omega)], rfl⟩
  · -- False
    refine RV.op (OV.step gno (Step.move rfl) rfl ?_)
    refine RV.op (OV.step (gyes rfl) (Step.move rfl) rfl ?_)
    refine RV.op (OV.split (gyes rfl) (Step.gtr rfl rfl) rfl (fun cc2 => ?_) (fun cc2 => ?_))
    · -- True
      refine RV.op (OV.step gno (Step.pick_f rfl rfl) rfl ?_)
      refine RV.op (OV.step gno (Step.move rfl) rfl ?_)
      refine RV.op (OV.skip rfl rfl ?_)
      refine RV.op (OV.skip rfl rfl ?_)
      refine RV.op (OV.skip rfl rfl ?_)
      refine RV.op (OV.step gno (Step.pick_t rfl rfl) rfl ?_)
      refine RV.nil ?_
      refine KV.then_n ?_
      refine KV.env [(0, _), (1, _), (20, _)] ⟨rfl, rfl, rfl, trivial⟩ ?_
      refine CV.cond_t rfl ?_
      refine CV.seq ?_
      -- region 2 depgraph.go:119
      refine CV.region ?_
      refine RV.op (OV.step gno (Step.assign rfl) rfl ?_)
      refine RV.nil ?_
      refine KV.then_n ?_
      refine KV.env [(4, _)] ⟨rfl, trivial⟩ ?_
      refine CV.ret ?_
      refine KV.then_ret ?_
      -- return at r2
      refine KV.sel [] [] rfl ?_
      exact KV.ret1 rfl rfl _ (fun _ h => h) ⟨by rw [clM, if_pos (by omega)], rfl⟩
    · -- False
      refine RV.op (OV.step gno (Step.pick_f rfl rfl) rfl ?_)
      refine RV.op (OV.step gno (Step.move rfl) rfl ?_)
      refine RV.op (OV.step (gyes rfl) (Step.move rfl) rfl ?_)
      refine RV.op (OV.step (gyes rfl) (Step.lenSl Try.underlying68 rfl) rfl ?_)
      refine RV.op (OV.split (gyes rfl) (Step.gtr rfl rfl) rfl (fun cc3 => ?_) (fun cc3 => ?_))
      · -- True
        refine RV.op (OV.step gno (Step.pick_f rfl rfl) rfl ?_)
        refine RV.nil ?_
        refine KV.then_n ?_
        refine KV.env [(0, _), (1, _), (20, _)] ⟨rfl, rfl, rfl, trivial⟩ ?_
        refine CV.cond_t rfl ?_
        refine CV.seq ?_
        -- region 2 depgraph.go:119
        refine CV.region ?_
        refine RV.op (OV.step gno (Step.assign rfl) rfl ?_)
        refine RV.nil ?_
        refine KV.then_n ?_
        refine KV.env [(4, _)] ⟨rfl, trivial⟩ ?_
        refine CV.ret ?_
        refine KV.then_ret ?_
        -- return at r2
        refine KV.sel [] [] rfl ?_
        exact KV.ret1 rfl rfl _ (fun _ h => h) ⟨by rw [clM, if_pos (by omega)], rfl⟩
      · -- False
        refine RV.op (OV.step gno (Step.pick_f rfl rfl) rfl ?_)
        refine RV.nil ?_
        refine KV.then_n ?_
        refine KV.env [(0, _), (1, _), (20, _)] ⟨rfl, rfl, rfl, trivial⟩ ?_
        refine CV.cond_f rfl ?_
        refine CV.skip ?_
        refine KV.then_n ?_
        refine KV.env [(0, _), (1, _)] ⟨rfl, rfl, trivial⟩ ?_
        refine CV.seq ?_
        refine CV.seq ?_
        -- region 3 depgraph.go:121
        refine CV.region ?_
        refine RV.op (OV.step gno (Step.move rfl) rfl ?_)
        refine RV.op (OV.step gno (Step.lenSl Try.underlying68 rfl) rfl ?_)
        refine RV.op (OV.step gno (Step.move rfl) rfl ?_)
        refine RV.nil ?_
        refine KV.then_n ?_
        refine KV.env [(0, _), (1, _), (21, _), (22, _), (23, _)] ⟨rfl, rfl, rfl, rfl, rfl, trivial⟩ ?_
        refine CV.block ?_
        -- loop L4; live [0, 1, 21, 22, 23]
        refine KV.sel [] [] rfl ?_
        have hn0 : ¬ (n < 0 ∨ 128 < n ∨ (1024 : Int) < links.length) := by omega
        refine CV.loopI (α := Nat) (fun j => j ≤ links.length ∧ ∀ i, i < j → okL n (links.getD i linkK.d)) (fun j => links.length - j) (fun j => [(0, .int .i64 n), (1, .slice A links.length c), (21, .slice A links.length c), (22, .int .i64 links.length), (23, .int .i64 j)]) (fun _ => Hp I w []) 0 ⟨Nat.zero_le _, fun _ h => by omega⟩ ⟨rfl, rfl, rfl, rfl, rfl, trivial⟩ (fun _ h => h) ?_
        intro j hj
        refine CV.seq ?_
        -- region 4 depgraph.go:121
        refine CV.region ?_
        refine RV.op (OV.split gno (Step.lss rfl rfl) rfl (fun hlt2 => ?_) (fun hlt2 => ?_))
        · -- True
          refine RV.nil ?_
          refine KV.then_n ?_
          refine KV.env [(0, _), (1, _), (21, _), (22, _), (23, _), (24, _)] ⟨rfl, rfl, rfl, rfl, rfl, rfl, trivial⟩ ?_
          refine CV.seq ?_
          refine CV.cond_t rfl ?_
          refine CV.skip ?_
          refine KV.then_n ?_
          refine KV.env [(0, _), (1, _), (21, _), (22, _), (23, _)] ⟨rfl, rfl, rfl, rfl, rfl, trivial⟩ ?_
          refine CV.seq ?_
          refine CV.block ?_
          refine CV.seq ?_
          -- region 5 depgraph.go:121
          refine CV.region ?_
          refine RV.op (OV.step gno (Step.idx Try.underlying68 I70 (fun w h => h.rs hr (fun _ => hI _)) rfl rfl (rfl) _ rfl (by omega)) rfl ?_)
          refine RV.op (OV.step gno (Step.loadN _ Try.underlying70 rfl I70 rfl rfl (fun w h => (h.rs hr (fun _ => hI _)).cells (by omega))) rfl ?_)
          refine RV.op (OV.alloc #[.int .i64 0, .int .i64 0] I70 rfl gno rfl (fun b5_2 => ?_))
          refine RV.op (OV.store 0 [_, _] #[_, _] I70 rfl rfl rfl rfl rfl (Nat.le_of_ble_eq_true rfl) (by simp [Value.oneCell']) rfl gno ?_)
          refine RV.nil ?_
          refine KV.then_n ?_
          refine KV.env [(0, _), (1, _), (6, _), (21, _), (22, _), (23, _)] ⟨rfl, rfl, rfl, rfl, rfl, rfl, trivial⟩ ?_
          refine CV.seq ?_
          -- region 6 depgraph.go:122
          refine CV.region ?_
          refine RV.op (OV.step gno (Step.fieldAddr rfl (F70_0 _ _)) rfl ?_)
          (first | refine RV.op (OV.step gno (Step.load Try.underlying3 rfl rfl (fun w h => h.cell 0 rfl rfl)) rfl ?_) | refine RV.op (OV.step gno (Step.load Try.underlying3 rfl rfl (fun w h => (h.rs hr (fun _ => hI _)).cell (by omega) rfl)) rfl ?_) | refine RV.op (OV.step gno (Step.load Try.underlying3 rfl rfl (fun w h => (h.rs hr (fun _ => hI _)).cell0 (by omega) rfl)) rfl ?_))
          refine RV.op (OV.split gno (Step.lss rfl rfl) rfl (fun cc4 => ?_) (fun cc4 => ?_))
          · -- True
            refine RV.op (OV.step gno (Step.move rfl) rfl ?_)
            refine RV.op (OV.skip rfl rfl ?_)
            refine RV.op (OV.skip rfl rfl ?_)
            refine RV.op (OV.skip rfl rfl ?_)
            refine RV.op (OV.skip rfl rfl ?_)
            refine RV.op (OV.step gno (Step.pick_t rfl rfl) rfl ?_)
            refine RV.op (OV.step gno (Step.move rfl) rfl ?_)
            refine RV.op (OV.skip rfl rfl ?_)
            refine RV.op (OV.skip rfl rfl ?_)
            refine RV.op (OV.skip rfl rfl ?_)
            refine RV.op (OV.step gno (Step.pick_t rfl rfl) rfl ?_)
            refine RV.op (OV.step gno (Step.move rfl) rfl ?_)
            refine RV.op (OV.skip rfl rfl ?_)
            refine RV.op (OV.skip rfl rfl ?_)
            refine RV.op (OV.skip rfl rfl ?_)
            refine RV.op (OV.skip rfl rfl ?_)
            refine RV.op (OV.step gno (Step.pick_t rfl rfl) rfl ?_)
            refine RV.nil ?_
            refine KV.then_n ?_
            refine KV.env [(0, _), (1, _), (21, _), (22, _), (23, _), (46, _)] ⟨rfl, rfl, rfl, rfl, rfl, rfl, trivial⟩ ?_
            refine CV.cond_t rfl ?_
            refine CV.seq ?_
            -- region 7 depgraph.go:123
            refine CV.region ?_
            refine RV.op (OV.step gno (Step.assign rfl) rfl ?_)
            refine RV.nil ?_
            refine KV.then_n ?_
            refine KV.env [(4, _)] ⟨rfl, trivial⟩ ?_
            refine CV.ret ?_
            refine KV.block_ret ?_
            refine KV.then_ret ?_
            refine KV.then_ret ?_
            refine KV.block_ret ?_
            refine KV.then_ret ?_
            -- return at r7
            refine KV.sel [] [] rfl ?_
            exact KV.ret1 rfl rfl _ (fun _ h => h) ⟨by rw [clM, if_neg hn0, if_neg (fun hall => by have := hall j (by omega); unfold okL at this; omega)], rfl⟩
          · -- False
            refine RV.op (OV.step gno (Step.move rfl) rfl ?_)
            refine RV.op (OV.step (gyes rfl) (Step.fieldAddr rfl (F70_0 _ _)) rfl ?_)
            (first | refine RV.op (OV.step (gyes rfl) (Step.load Try.underlying3 rfl rfl (fun w h => h.cell 0 rfl rfl)) rfl ?_) | refine RV.op (OV.step (gyes rfl) (Step.load Try.underlying3 rfl rfl (fun w h => (h.rs hr (fun _ => hI _)).cell (by omega) rfl)) rfl ?_) | refine RV.op (OV.step (gyes rfl) (Step.load Try.underlying3 rfl rfl (fun w h => (h.rs hr (fun _ => hI _)).cell0 (by omega) rfl)) rfl ?_))
            refine RV.op (OV.step (gyes rfl) (Step.move rfl) rfl ?_)
            refine RV.op (OV.split (gyes rfl) (Step.geq rfl rfl) rfl (fun cc5 => ?_) (fun cc5 => ?_))
            · -- True
              refine RV.op (OV.step gno (Step.pick_f rfl rfl) rfl ?_)
              refine RV.op (OV.step gno (Step.move rfl) rfl ?_)
              refine RV.op (OV.skip rfl rfl ?_)
              refine RV.op (OV.skip rfl rfl ?_)
              refine RV.op (OV.skip rfl rfl ?_)
              refine RV.op (OV.step gno (Step.pick_t rfl rfl) rfl ?_)
              refine RV.op (OV.step gno (Step.move rfl) rfl ?_)
              refine RV.op (OV.skip rfl rfl ?_)
              refine RV.op (OV.skip rfl rfl ?_)
              refine RV.op (OV.skip rfl rfl ?_)
              refine RV.op (OV.skip rfl rfl ?_)
              refine RV.op (OV.step gno (Step.pick_t rfl rfl) rfl ?_)
              refine RV.nil ?_
              refine KV.then_n ?_
              refine KV.env [(0, _), (1, _), (21, _), (22, _), (23, _), (46, _)] ⟨rfl, rfl, rfl, rfl, rfl, rfl, trivial⟩ ?_
              refine CV.cond_t rfl ?_
              refine CV.seq ?_
              -- region 7 depgraph.go:123
              refine CV.region ?_
              refine RV.op (OV.step gno (Step.assign rfl) rfl ?_)
              refine RV.nil ?_
              refine KV.then_n ?_
              refine KV.env [(4, _)] ⟨rfl, trivial⟩ ?_
              refine CV.ret ?_
              refine KV.block_ret ?_
              refine KV.then_ret ?_
              refine KV.then_ret ?_
              refine KV.block_ret ?_
              refine KV.then_ret ?_
              -- return at r7
              refine KV.sel [] [] rfl ?_
              exact KV.ret1 rfl rfl _ (fun _ h => h) ⟨by rw [clM, if_neg hn0, if_neg (fun hall => by have := hall j (by omega); unfold okL at this; omega)], rfl⟩
            · -- False
              refine RV.op (OV.step gno (Step.pick_f rfl rfl) rfl ?_)
              refine RV.op (OV.step gno (Step.move rfl) rfl ?_)
              refine RV.op (OV.step (gyes rfl) (Step.fieldAddr rfl (F70_1 _ _)) rfl ?_)
              (first | refine RV.op (OV.step (gyes rfl) (Step.load Try.underlying3 rfl rfl (fun w h => h.cell 0 rfl rfl)) rfl ?_) | refine RV.op (OV.step (gyes rfl) (Step.load Try.underlying3 rfl rfl (fun w h => (h.rs hr (fun _ => hI _)).cell (by omega) rfl)) rfl ?_) | refine RV.op (OV.step (gyes rfl) (Step.load Try.underlying3 rfl rfl (fun w h => (h.rs hr (fun _ => hI _)).cell0 (by omega) rfl)) rfl ?_))
              refine RV.op (OV.split (gyes rfl) (Step.lss rfl rfl) rfl (fun cc6 => ?_) (fun cc6 => ?_))
              · -- True
                refine RV.op (OV.step gno (Step.pick_f rfl rfl) rfl ?_)
                refine RV.op (OV.step gno (Step.move rfl) rfl ?_)
                refine RV.op (OV.skip rfl rfl ?_)
                refine RV.op (OV.skip rfl rfl ?_)
                refine RV.op (OV.skip rfl rfl ?_)
                refine RV.op (OV.skip rfl rfl ?_)
                refine RV.op (OV.step gno (Step.pick_t rfl rfl) rfl ?_)
                refine RV.nil ?_
                refine KV.then_n ?_
                refine KV.env [(0, _), (1, _), (21, _), (22, _), (23, _), (46, _)] ⟨rfl, rfl, rfl, rfl, rfl, rfl, trivial⟩ ?_
                refine CV.cond_t rfl ?_
                refine CV.seq ?_
                -- region 7 depgraph.go:123
                refine CV.region ?_
                refine RV.op (OV.step gno (Step.assign rfl) rfl ?_)
                refine RV.nil ?_
                refine KV.then_n ?_
                refine KV.env [(4, _)] ⟨rfl, trivial⟩ ?_
                refine CV.ret ?_
                refine KV.block_ret ?_
                refine KV.then_ret ?_
                refine KV.then_ret ?_
                refine KV.block_ret ?_
                refine KV.then_ret ?_
                -- return at r7
                refine KV.sel [] [] rfl ?_
                exact KV.ret1 rfl rfl _ (fun _ h => h) ⟨by rw [clM, if_neg hn0, if_neg (fun hall => by have := hall j (by omega); unfold okL at this; omega)], rfl⟩
              · -- False
                refine RV.op (OV.step gno (Step.pick_f rfl rfl) rfl ?_)
                refine RV.op (OV.step gno (Step.move rfl) rfl ?_)
                refine RV.op (OV.step (gyes rfl) (Step.fieldAddr rfl (F70_1 _ _)) rfl ?_)
                (first | refine RV.op (OV.step (gyes rfl) (Step.load Try.underlying3 rfl rfl (fun w h => h.cell 0 rfl rfl)) rfl ?_) | refine RV.op (OV.step (gyes rfl) (Step.load Try.underlying3 rfl rfl (fun w h => (h.rs hr (fun _ => hI _)).cell (by omega) rfl)) rfl ?_) | refine RV.op (OV.step (gyes rfl) (Step.load Try.underlying3 rfl rfl (fun w h => (h.rs hr (fun _ => hI _)).cell0 (by omega) rfl)) rfl ?_))
                refine RV.op (OV.step (gyes rfl) (Step.move rfl) rfl ?_)
                refine RV.op (OV.split (gyes rfl) (Step.geq rfl rfl) rfl (fun cc7 => ?_) (fun cc7 => ?_))
                · -- True
                  refine RV.op (OV.step gno (Step.pick_f rfl rfl) rfl ?_)
                  refine RV.nil ?_
                  refine KV.then_n ?_
                  refine KV.env [(0, _), (1, _), (21, _), (22, _), (23, _), (46, _)] ⟨rfl, rfl, rfl, rfl, rfl, rfl, trivial⟩ ?_
                  refine CV.cond_t rfl ?_
                  refine CV.seq ?_
                  -- region 7 depgraph.go:123
                  refine CV.region ?_
                  refine RV.op (OV.step gno (Step.assign rfl) rfl ?_)
                  refine RV.nil ?_
                  refine KV.then_n ?_
                  refine KV.env [(4, _)] ⟨rfl, trivial⟩ ?_
                  refine CV.ret ?_
                  refine KV.block_ret ?_
                  refine KV.then_ret ?_
                  refine KV.then_ret ?_
                  refine KV.block_ret ?_
                  refine KV.then_ret ?_
                  -- return at r7
                  refine KV.sel [] [] rfl ?_
                  exact KV.ret1 rfl rfl _ (fun _ h => h) ⟨by rw [clM, if_neg hn0, if_neg (fun hall => by have := hall j (by omega); unfold okL at this; omega)], rfl⟩
                · -- False
                  refine RV.op (OV.step gno (Step.pick_f rfl rfl) rfl ?_)
                  refine RV.nil ?_
                  refine KV.then_n ?_
                  refine KV.env [(0, _), (1, _), (21, _), (22, _), (23, _), (46, _)] ⟨rfl, rfl, rfl, rfl, rfl, rfl, trivial⟩ ?_
                  refine CV.cond_f rfl ?_
                  refine CV.skip ?_
                  refine KV.block_n ?_
                  refine KV.then_n ?_
                  refine KV.env [(0, _), (1, _), (21, _), (22, _), (23, _)] ⟨rfl, rfl, rfl, rfl, rfl, trivial⟩ ?_
                  -- region 8 depgraph.go:121
                  refine CV.region ?_
                  (first | refine RV.op (OV.step gno (Step.add rfl rfl (wI64 (by omega) (by omega))) rfl ?_) | refine RV.op (OV.step gno (Step.add rfl rfl rfl) rfl ?_))
                  refine RV.op (OV.step gno (Step.move rfl) rfl ?_)
                  refine RV.nil ?_
                  refine KV.then_n ?_
                  refine KV.env [(0, _), (1, _), (21, _), (22, _), (23, _)] ⟨rfl, rfl, rfl, rfl, rfl, trivial⟩ ?_
                  refine KV.sel [] [] rfl ?_
                  refine KV.loopI (j + 1) ⟨by omega, fun i hi => by by_cases e : i = j; (subst e; unfold okL; omega); exact hj.2 i (by omega)⟩ (by omega) ⟨rfl, rfl, rfl, rfl, rfl, trivial⟩ (fun _ h => h)
        · -- False
          obtain rfl : j = links.length := by omega
          refine RV.nil ?_
          refine KV.then_n ?_
          refine KV.env [(0, _), (1, _), (21, _), (22, _), (23, _), (24, _)] ⟨rfl, rfl, rfl, rfl, rfl, rfl, trivial⟩ ?_
          refine CV.seq ?_
          refine CV.cond_f rfl ?_
          refine CV.exit ?_
          refine KV.then_exit ?_
          refine KV.then_exit ?_
          refine KV.block_hit ?_
          refine KV.then_n ?_
          refine KV.env [(1, _)] ⟨rfl, trivial⟩ ?_
          refine CV.seq ?_
          -- region 9 depgraph.go:126
          refine CV.region ?_
          refine RV.op (OV.step gno (Step.move rfl) rfl ?_)
          refine RV.op (OV.step gno (Step.lenSl Try.underlying68 rfl) rfl ?_)
          refine RV.op (OV.makeMap (κ := Link) (ν := Bool) linkV Value.bool Try.underlying81 rfl gno rfl (fun mb => ?_))
          refine RV.op (OV.step gno (Step.assign rfl) rfl ?_)
          refine RV.nil ?_
          refine KV.then_n ?_
          refine KV.env [(1, _), (7, _)] ⟨rfl, rfl, trivial⟩ ?_
          refine CV.seq ?_
          refine CV.seq ?_
          -- region 10 depgraph.go:127
          refine CV.region ?_
          refine RV.op (OV.step gno (Step.move rfl) rfl ?_)
          refine RV.op (OV.step gno (Step.lenSl Try.underlying68 rfl) rfl ?_)
          refine RV.op (OV.step gno (Step.move rfl) rfl ?_)
          refine RV.nil ?_
          refine KV.then_n ?_
          refine KV.env [(7, _), (51, _), (52, _), (53, _)] ⟨rfl, rfl, rfl, rfl, trivial⟩ ?_
          refine CV.block ?_
          -- loop L11; live [7, 51, 52, 53]
          refine KV.sel [0] [_] rfl ?_
          refine CV.loopI (α := Nat) (fun j => j ≤ links.length ∧ (links.take j).Nodup) (fun j => links.length - j) (fun j => [(7, .map (some mb)), (51, .slice A links.length c), (52, .int .i64 links.length), (53, .int .i64 j)]) (fun j => Hp I w [OM mb linkV Value.bool ((links.take j).map fun l => (l, true))]) 0 ⟨Nat.zero_le _, by simp⟩ ⟨rfl, rfl, rfl, rfl, trivial⟩ (fun _ h => h) ?_
          intro k hk
          refine CV.seq ?_
          -- region 11 depgraph.go:127
          refine CV.region ?_
          refine RV.op (OV.split gno (Step.lss rfl rfl) rfl (fun hlt3 => ?_) (fun hlt3 => ?_))
          · -- True
            refine RV.nil ?_
            refine KV.then_n ?_
            refine KV.env [(7, _), (51, _), (52, _), (53, _), (54, _)] ⟨rfl, rfl, rfl, rfl, rfl, trivial⟩ ?_
            refine CV.seq ?_
            refine CV.cond_t rfl ?_
            refine CV.skip ?_
            refine KV.then_n ?_
            refine KV.env [(7, _), (51, _), (52, _), (53, _)] ⟨rfl, rfl, rfl, rfl, trivial⟩ ?_
            refine CV.seq ?_
            refine CV.block ?_
            refine CV.seq ?_
            -- region 12 depgraph.go:127
            refine CV.region ?_
            refine RV.op (OV.step gno (Step.idx Try.underlying68 I70 (fun w h => h.rs hr (fun _ => hI _)) rfl rfl (rfl) _ rfl (by omega)) rfl ?_)
            refine RV.op (OV.step gno (Step.loadN _ Try.underlying70 rfl I70 rfl rfl (fun w h => (h.rs hr (fun _ => hI _)).cells (by omega))) rfl ?_)
            refine RV.op (OV.alloc #[.int .i64 0, .int .i64 0] I70 rfl gno rfl (fun b12_2 => ?_))
            refine RV.op (OV.store 1 [_, _] #[_, _] I70 rfl rfl rfl rfl rfl (Nat.le_of_ble_eq_true rfl) (by simp [Value.oneCell']) rfl gno ?_)
            refine RV.nil ?_
            refine KV.then_n ?_
            refine KV.env [(7, _), (9, _), (51, _), (52, _), (53, _)] ⟨rfl, rfl, rfl, rfl, rfl, trivial⟩ ?_
            refine CV.seq ?_
            refine CV.seq ?_
            -- region 13 depgraph.go:128
            refine CV.region ?_
            refine RV.op (OV.step gno (Step.move rfl) rfl ?_)
            refine RV.op (OV.step gno (Step.loadN _ Try.underlying70 rfl I70 rfl rfl (fun w h => h.cells 1 rfl)) rfl ?_)
            refine RV.op (OV.step gno (Step.lookup 0 (vf := Value.bool) (zv := false) (links.getD k linkK.d) Try.underlying81 KL I4 rfl rfl rfl) rfl ?_)
            rw [mget_dec]
            by_cases hnin : links.getD k linkK.d ∈ links.take k
            · rw [decide_eq_true hnin]
              refine RV.nil ?_
              refine KV.then_n ?_
              refine KV.env [(7, _), (9, _), (51, _), (52, _), (53, _), (59, _)] ⟨rfl, rfl, rfl, rfl, rfl, rfl, trivial⟩ ?_
              refine CV.cond_t rfl ?_
              refine CV.seq ?_
              -- region 14 depgraph.go:129
              refine CV.region ?_
              refine RV.op (OV.step gno (Step.assign rfl) rfl ?_)
              refine RV.nil ?_
              refine KV.then_n ?_
              refine KV.env [(4, _)] ⟨rfl, trivial⟩ ?_
              refine CV.ret ?_
              refine KV.then_ret ?_
              refine KV.block_ret ?_
              refine KV.then_ret ?_
              refine KV.then_ret ?_
              refine KV.block_ret ?_
              refine KV.then_ret ?_
              -- return at r14
              refine KV.sel [] [] rfl ?_
              exact KV.ret1 rfl rfl _ (fun _ h => h) ⟨by rw [clM, if_neg hn0, if_pos hj.2, if_neg (not_nodup links k (by omega) hnin)], rfl⟩
            · rw [decide_eq_false hnin]
              refine RV.nil ?_
              refine KV.then_n ?_
              refine KV.env [(7, _), (9, _), (51, _), (52, _), (53, _), (59, _)] ⟨rfl, rfl, rfl, rfl, rfl, rfl, trivial⟩ ?_
              refine CV.cond_f rfl ?_
              refine CV.skip ?_
              refine KV.then_n ?_
              refine KV.env [(7, _), (9, _), (51, _), (52, _), (53, _)] ⟨rfl, rfl, rfl, rfl, rfl, trivial⟩ ?_
              -- region 15 depgraph.go:131
              refine CV.region ?_
              refine RV.op (OV.step gno (Step.move rfl) rfl ?_)
              refine RV.op (OV.step gno (Step.loadN _ Try.underlying70 rfl I70 rfl rfl (fun w h => h.cells 1 rfl)) rfl ?_)
              refine RV.op (OV.mapInsert 0 (links.getD k linkK.d) true Try.underlying81 KL rfl rfl rfl rfl (by rw [mget_true, if_neg hnin]) gno ?_)
              refine RV.nil ?_
              refine KV.block_n ?_
              refine KV.then_n ?_
              refine KV.env [(7, _), (51, _), (52, _), (53, _)] ⟨rfl, rfl, rfl, rfl, trivial⟩ ?_
              -- region 16 depgraph.go:127
              refine CV.region ?_
              (first | refine RV.op (OV.step gno (Step.add rfl rfl (wI64 (by omega) (by omega))) rfl ?_) | refine RV.op (OV.step gno (Step.add rfl rfl rfl) rfl ?_))
              refine RV.op (OV.step gno (Step.move rfl) rfl ?_)
              refine RV.nil ?_
              refine KV.then_n ?_
              refine KV.env [(7, _), (51, _), (52, _), (53, _)] ⟨rfl, rfl, rfl, rfl, trivial⟩ ?_
              refine KV.sel [0] [_] rfl ?_
              refine KV.loopI (k + 1) ⟨by omega, nodup_take_succ links k (by omega) hk.2 hnin⟩ (by omega) ⟨rfl, rfl, rfl, rfl, trivial⟩ (fun _ h => by rw [take_succ_getD links k linkK.d (by omega), List.map_append]; exact h)
          · -- False
            obtain rfl : k = links.length := by omega
            rw [List.take_length] at hk
            refine RV.nil ?_
            refine KV.then_n ?_
            refine KV.env [(7, _), (51, _), (52, _), (53, _), (54, _)] ⟨rfl, rfl, rfl, rfl, rfl, trivial⟩ ?_
            refine CV.seq ?_
            refine CV.cond_f rfl ?_
            refine CV.exit ?_
            refine KV.then_exit ?_
            refine KV.then_exit ?_
            refine KV.block_hit ?_
            refine KV.then_n ?_
            refine KV.env [] trivial ?_
            refine CV.seq ?_
            -- region 17 depgraph.go:133
            refine CV.region ?_
            refine RV.op (OV.step gno (Step.assign rfl) rfl ?_)
            refine RV.nil ?_
            refine KV.then_n ?_
            refine KV.env [(4, _)] ⟨rfl, trivial⟩ ?_
            refine CV.ret ?_
            -- return at r17
            refine KV.sel [] [] rfl ?_
            exact KV.ret1 rfl rfl _ (fun _ h => h) ⟨by rw [clM, if_neg hn0, if_pos hj.2, if_pos hk.2], rfl⟩
end Go.Proofs.Ytcmalbkflbfidaa
