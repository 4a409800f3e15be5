/-
  Walks, part 2.
-/
import Derived.Test.YtaafpnoffdcbnaaTab2
import Derived.Test.YtaafpnoffdcbnaaW1
set_option linter.unusedSimpArgs false
set_option linter.unusedVariables false
namespace Go.Proofs.Ytaafpnoffdcbnaa
open Go.Sv Go.Perf
set_option maxRecDepth 100000 in
set_option maxHeartbeats 1000000 in
theorem equal_fn {A B : Option Addr} {c d : Nat} {xs ys : List POp} {w : World} (hx : RS w popK A xs) (hy : RS w popK B ys) (hl : xs.length ≤ 1000000) (hl2 : ys.length ≤ 1000000) : Fx Try.prog 21 [.slice A xs.length c, .slice B ys.length d] w [] no (fun v L => v = .bool (decide (xs = ys)) ∧ L = []) := by
  refine Sv.Fx.body Try.func21 rfl T21 rfl ?_
  intro I hro hI
  refine KV.env [(0, _), (1, _)] ⟨rfl, rfl, trivial⟩ ?_
  refine CV.seq ?_
  -- region 0 help.go:18
  refine CV.region ?_
  refine RV.op (OV.step gno (Step.assign rfl) rfl ?_)
  refine RV.nil ?_
  refine KV.then_n ?_
  refine KV.env [(0, _), (1, _)] ⟨rfl, rfl, trivial⟩ ?_
  refine CV.seq ?_
  refine CV.seq ?_
  -- region 1 help.go:19
  refine CV.region ?_
  refine RV.op (OV.step gno (Step.move rfl) rfl ?_)
  refine RV.op (OV.step gno (Step.lenSl Try.underlying35 rfl) rfl ?_)
  refine RV.op (OV.step gno (Step.move rfl) rfl ?_)
  refine RV.op (OV.step gno (Step.lenSl Try.underlying35 rfl) rfl ?_)
  refine RV.op (OV.split gno (Step.neq rfl rfl) rfl (fun hne => ?_) (fun hne => ?_))
  · -- True
    refine RV.nil ?_
    refine KV.then_n ?_
    refine KV.env [(0, _), (1, _), (10, _)] ⟨rfl, rfl, rfl, trivial⟩ ?_
    refine CV.cond_t rfl ?_
    refine CV.seq ?_
    -- region 2 help.go:20
    refine CV.region ?_
    refine RV.op (OV.step gno (Step.assign rfl) rfl ?_)
    refine RV.nil ?_
    refine KV.then_n ?_
    refine KV.env [(4, _)] ⟨rfl, trivial⟩ ?_
    refine CV.ret ?_
    refine KV.then_ret ?_
    -- return at r2
    refine KV.sel [] [] rfl ?_
    exact KV.ret1 rfl rfl _ (fun _ h => h) ⟨by rw [decide_eq_false]; rintro rfl; exact hne rfl, rfl⟩
  · -- False
    refine RV.nil ?_
    refine KV.then_n ?_
    refine KV.env [(0, _), (1, _), (10, _)] ⟨rfl, rfl, rfl, trivial⟩ ?_
    refine CV.cond_f rfl ?_
    refine CV.skip ?_
    refine KV.then_n ?_
    refine KV.env [(0, _), (1, _)] ⟨rfl, rfl, trivial⟩ ?_
    refine CV.seq ?_
    refine CV.seq ?_
    -- region 3 help.go:22
    refine CV.region ?_
    refine RV.op (OV.step gno (Step.assign rfl) rfl ?_)
    refine RV.nil ?_
    refine KV.then_n ?_
    refine KV.env [(0, _), (1, _), (5, _)] ⟨rfl, rfl, rfl, trivial⟩ ?_
    refine CV.block ?_
    -- loop L4; live [0, 1, 5]
    refine KV.sel [] [] rfl ?_
    refine CV.loopI (fun (j : Nat) => j ≤ xs.length ∧ ∀ i, i < j → xs.getD i popK.d = ys.getD i popK.d) (fun (j : Nat) => xs.length - j) (fun (j : Nat) => [(0, .slice A xs.length c), (1, .slice B ys.length d), (5, .int .i64 j)]) (fun (j : Nat) => Hp I w []) (0) ⟨Nat.zero_le _, fun _ h => by omega⟩ ⟨rfl, rfl, rfl, trivial⟩ (fun _ h => h) ?_
    intro j hinv
    refine CV.seq ?_
    refine CV.seq ?_
    -- region 4 help.go:22
    refine CV.region ?_
    refine RV.op (OV.step gno (Step.move rfl) rfl ?_)
    refine RV.op (OV.step gno (Step.move rfl) rfl ?_)
    refine RV.op (OV.step gno (Step.lenSl Try.underlying35 rfl) rfl ?_)
    refine RV.op (OV.split gno (Step.lss rfl rfl) rfl (fun hlt2 => ?_) (fun hlt2 => ?_))
    · -- True
      refine RV.nil ?_
      refine KV.then_n ?_
      refine KV.env [(0, _), (1, _), (5, _), (14, _)] ⟨rfl, rfl, rfl, rfl, trivial⟩ ?_
      refine CV.cond_t rfl ?_
      refine CV.skip ?_
      refine KV.then_n ?_
      refine KV.env [(0, _), (1, _), (5, _)] ⟨rfl, rfl, rfl, trivial⟩ ?_
      refine CV.seq ?_
      refine CV.block ?_
      refine CV.seq ?_
      -- region 6 help.go:23
      refine CV.still (by kernel_rfl) (by kernel_rfl) (fun _ h => h.drew) ?_
      refine SV.step gno (Step.move rfl) rfl ?_
      refine SV.step gno (Step.move rfl) rfl ?_
      refine SV.step gno (Step.idx Try.underlying35 I40 (fun w h => h.rs hx (fun _ => hI _)) rfl rfl (rfl) _ rfl (by omega)) rfl ?_
      refine SV.step gno (Step.loadN _ Try.underlying40 rfl I40 rfl rfl (fun w h => (h.rs hx (fun _ => hI _)).cells (by omega))) rfl ?_
      refine SV.step gno (Step.move rfl) rfl ?_
      refine SV.step gno (Step.move rfl) rfl ?_
      refine SV.step gno (Step.idx Try.underlying35 I40 (fun w h => h.rs hy (fun _ => hI _)) rfl rfl (rfl) _ rfl (by omega)) rfl ?_
      refine SV.step gno (Step.loadN _ Try.underlying40 rfl I40 rfl rfl (fun w h => (h.rs hy (fun _ => hI _)).cells (by omega))) rfl ?_
      refine SV.split gno (Step.binR rfl rfl (EG40neq _ _ _ _) (EQ40neq _ _ _ _)) rfl (fun hq => ?_) (fun hq => ?_)
      · -- True
        refine SV.nil ?_
        refine KV.then_n ?_
        refine KV.env [(0, _), (1, _), (5, _), (25, _)] ⟨rfl, rfl, rfl, rfl, trivial⟩ ?_
        refine CV.cond_t rfl ?_
        refine CV.seq ?_
        -- region 7 help.go:24
        refine CV.region ?_
        refine RV.op (OV.step gno (Step.assign rfl) rfl ?_)
        refine RV.nil ?_
        refine KV.then_n ?_
        refine KV.env [(4, _)] ⟨rfl, trivial⟩ ?_
        refine CV.ret ?_
        refine KV.block_ret ?_
        refine KV.then_ret ?_
        refine KV.then_ret ?_
        refine KV.block_ret ?_
        refine KV.then_ret ?_
        -- return at r7
        refine KV.sel [] [] rfl ?_
        exact KV.ret1 rfl rfl _ (fun _ h => h) ⟨by rw [decide_eq_false]; rintro rfl; exact hq ⟨rfl, rfl⟩, rfl⟩
      · -- False
        refine SV.nil ?_
        refine KV.then_n ?_
        refine KV.env [(0, _), (1, _), (5, _), (25, _)] ⟨rfl, rfl, rfl, rfl, trivial⟩ ?_
        refine CV.cond_f rfl ?_
        refine CV.skip ?_
        refine KV.block_n ?_
        refine KV.then_n ?_
        refine KV.env [(0, _), (1, _), (5, _)] ⟨rfl, rfl, rfl, trivial⟩ ?_
        -- region 5 help.go:22
        refine CV.region ?_
        refine RV.op (OV.step gno (Step.move rfl) rfl ?_)
        (first | refine RV.op (OV.step gno (Step.add rfl rfl (wI64 (by omega) (by omega))) rfl ?_) | refine RV.op (OV.step gno (Step.add rfl rfl rfl) rfl ?_))
        refine RV.op (OV.step gno (Step.assign rfl) rfl ?_)
        refine RV.nil ?_
        refine KV.then_n ?_
        refine KV.env [(0, _), (1, _), (5, _)] ⟨rfl, rfl, rfl, trivial⟩ ?_
        refine KV.sel [] [] rfl ?_
        exact KV.loopI (z := j) (j + 1) ⟨by omega, fun i hi => by by_cases e : i = j; (subst e; exact pop_eq (Decidable.not_not.1 hq)); exact hinv.2 i (by omega)⟩ (by omega) ⟨rfl, rfl, rfl, trivial⟩ (fun _ h => h)
    · -- False
      refine RV.nil ?_
      refine KV.then_n ?_
      refine KV.env [(0, _), (1, _), (5, _), (14, _)] ⟨rfl, rfl, rfl, rfl, trivial⟩ ?_
      refine CV.cond_f rfl ?_
      refine CV.exit ?_
      refine KV.then_exit ?_
      refine KV.then_exit ?_
      refine KV.block_hit ?_
      refine KV.then_n ?_
      refine KV.env [] trivial ?_
      refine CV.seq ?_
      -- region 8 help.go:27
      refine CV.region ?_
      refine RV.op (OV.step gno (Step.assign rfl) rfl ?_)
      refine RV.nil ?_
      refine KV.then_n ?_
      refine KV.env [(4, _)] ⟨rfl, trivial⟩ ?_
      refine CV.ret ?_
      -- return at r8
      refine KV.sel [] [] rfl ?_
      exact KV.ret1 rfl rfl _ (fun _ h => h) ⟨by rw [decide_eq_true (ext_getD (d := popK.d) (by omega) fun i hi => hinv.2 i (by omega))], rfl⟩

set_option maxRecDepth 100000 in
set_option maxHeartbeats 1000000 in
theorem insert_fn {A B : Option Addr} {a b : POp} {w : World} : Fx Try.prog 34 [.slice A 1 1, .int .i64 0, .slice B 1 1] w [OS 40 popK A 1 [a], OS 40 popK B 1 [b]] no (fun v L => ∃ A2 c2, v = .slice A2 2 c2 ∧ L = [OS 40 popK A2 c2 [b, a]]) := by
  refine Sv.Fx.body Try.func34 rfl T34 rfl ?_
  intro I hro hI
  refine KV.env [(0, _), (1, _), (2, _)] ⟨rfl, rfl, rfl, trivial⟩ ?_
  refine CV.seq ?_
  -- region 0 slices.go:136
  refine CV.region ?_
  refine RV.op (OV.step gno (Step.assign rfl) rfl ?_)
  refine RV.nil ?_
  refine KV.then_n ?_
  refine KV.env [(0, _), (1, _), (2, _)] ⟨rfl, rfl, rfl, trivial⟩ ?_
  refine CV.seq ?_
  -- region 1 slices.go:137
  refine CV.region ?_
  refine RV.op (OV.step gno (Step.move rfl) rfl ?_)
  refine RV.op (OV.step gno (Step.move rfl) rfl ?_)
  refine RV.op (OV.step gno (Step.sliceLo Try.underlying35 I40 rfl rfl (0) (rfl) (by omega)) rfl ?_)
  refine RV.nil ?_
  refine KV.then_n ?_
  refine KV.env [(0, _), (1, _), (2, _)] ⟨rfl, rfl, rfl, trivial⟩ ?_
  refine CV.seq ?_
  -- region 2 slices.go:139
  refine CV.region ?_
  refine RV.op (OV.step gno (Step.move rfl) rfl ?_)
  refine RV.op (OV.step gno (Step.lenSl Try.underlying35 rfl) rfl ?_)
  refine RV.op (OV.step gno (Step.assign rfl) rfl ?_)
  refine RV.nil ?_
  refine KV.then_n ?_
  refine KV.env [(0, _), (1, _), (2, _), (7, _)] ⟨rfl, rfl, rfl, rfl, trivial⟩ ?_
  refine CV.seq ?_
  refine CV.seq ?_
  -- region 3 slices.go:140
  refine CV.region ?_
  refine RV.op (OV.step gno (Step.move rfl) rfl ?_)
  refine RV.op (OV.split gno (Step.eql rfl rfl) rfl (fun cc1 => ?_) (fun cc1 => ?_))
  · -- True
    exfalso; omega
  · -- False
    refine RV.nil ?_
    refine KV.then_n ?_
    refine KV.env [(0, _), (1, _), (2, _), (7, _), (16, _)] ⟨rfl, rfl, rfl, rfl, rfl, trivial⟩ ?_
    refine CV.cond_f rfl ?_
    refine CV.skip ?_
    refine KV.then_n ?_
    refine KV.env [(0, _), (1, _), (2, _), (7, _)] ⟨rfl, rfl, rfl, rfl, trivial⟩ ?_
    refine CV.seq ?_
    -- region 5 slices.go:143
    refine CV.region ?_
    refine RV.op (OV.step gno (Step.move rfl) rfl ?_)
    refine RV.op (OV.step gno (Step.lenSl Try.underlying35 rfl) rfl ?_)
    refine RV.op (OV.step gno (Step.assign rfl) rfl ?_)
    refine RV.nil ?_
    refine KV.then_n ?_
    refine KV.env [(0, _), (1, _), (2, _), (7, _), (8, _)] ⟨rfl, rfl, rfl, rfl, rfl, trivial⟩ ?_
    refine CV.seq ?_
    refine CV.seq ?_
    -- region 6 slices.go:144
    refine CV.region ?_
    refine RV.op (OV.step gno (Step.move rfl) rfl ?_)
    refine RV.op (OV.step gno (Step.move rfl) rfl ?_)
    refine RV.op (OV.split gno (Step.eql rfl rfl) rfl (fun cc2 => ?_) (fun cc2 => ?_))
    · -- True
      exfalso; omega
    · -- False
      refine RV.nil ?_
      refine KV.then_n ?_
      refine KV.env [(0, _), (1, _), (2, _), (7, _), (8, _), (22, _)] ⟨rfl, rfl, rfl, rfl, rfl, rfl, trivial⟩ ?_
      refine CV.cond_f rfl ?_
      refine CV.skip ?_
      refine KV.then_n ?_
      refine KV.env [(0, _), (1, _), (2, _), (7, _), (8, _)] ⟨rfl, rfl, rfl, rfl, rfl, trivial⟩ ?_
      refine CV.seq ?_
      refine CV.seq ?_
      -- region 8 slices.go:147
      refine CV.region ?_
      refine RV.op (OV.step gno (Step.move rfl) rfl ?_)
      refine RV.op (OV.step gno (Step.move rfl) rfl ?_)
      (first | refine RV.op (OV.step gno (Step.add rfl rfl (wI64 (by omega) (by omega))) rfl ?_) | refine RV.op (OV.step gno (Step.add rfl rfl rfl) rfl ?_))
      refine RV.op (OV.step gno (Step.move rfl) rfl ?_)
      refine RV.op (OV.step gno (Step.capSl Try.underlying35 rfl) rfl ?_)
      refine RV.op (OV.split gno (Step.gtr rfl rfl) rfl (fun cc3 => ?_) (fun cc3 => ?_))
      · -- True
        refine RV.nil ?_
        refine KV.then_n ?_
        refine KV.env [(0, _), (1, _), (2, _), (7, _), (8, _), (31, _)] ⟨rfl, rfl, rfl, rfl, rfl, rfl, trivial⟩ ?_
        refine CV.cond_t rfl ?_
        refine CV.seq ?_
        -- region 9 slices.go:152
        refine CV.region ?_
        refine RV.op (OV.step gno (Step.move rfl) rfl ?_)
        refine RV.op (OV.step gno (Step.move rfl) rfl ?_)
        refine RV.op (OV.step gno (Step.sliceHi Try.underlying35 I40 rfl rfl (0) (rfl) (by omega)) rfl ?_)
        refine RV.op (OV.step gno (Step.move rfl) rfl ?_)
        refine RV.op (OV.step gno (Step.move rfl) rfl ?_)
        (first | refine RV.op (OV.step gno (Step.add rfl rfl (wI64 (by omega) (by omega))) rfl ?_) | refine RV.op (OV.step gno (Step.add rfl rfl rfl) rfl ?_))
        refine RV.op (OV.step gno (Step.move rfl) rfl ?_)
        (first | refine RV.op (OV.step gno (Step.sub rfl rfl (wI64 (by omega) (by omega))) rfl ?_) | refine RV.op (OV.step gno (Step.sub rfl rfl rfl) rfl ?_))
        refine RV.op (OV.appendZ (K := popK) (zs := []) ⟨false, 0⟩ 2 Try.underlying35 Try.underlying3 I40 rfl rfl rfl (by omega) rfl (fun w h => RS.nil) (by omega) (by omega) (by omega) (by omega) (by decide) gno rfl (fun A9 c9 hc9 => ?_))
        refine RV.op (OV.step gno (Step.assign rfl) rfl ?_)
        refine RV.nil ?_
        refine KV.then_n ?_
        refine KV.env [(0, _), (1, _), (2, _), (7, _), (9, _)] ⟨rfl, rfl, rfl, rfl, rfl, trivial⟩ ?_
        refine CV.seq ?_
        -- region 10 slices.go:153
        refine CV.region ?_
        refine RV.op (OV.step gno (Step.move rfl) rfl ?_)
        refine RV.op (OV.step gno (Step.move rfl) rfl ?_)
        refine RV.op (OV.step gno (Step.sliceLo Try.underlying35 I40 rfl rfl (0) (rfl) (by omega)) rfl ?_)
        refine RV.op (OV.step gno (Step.move rfl) rfl ?_)
        refine RV.op (OV.copy (K := popK) 2 0 (zs := [b]) Try.underlying35 I40 rfl rfl rfl (Nat.zero_le _) rfl rfl (fun w h => h.os 1 rfl) gno rfl ?_)
        refine KV.heap (S' := Hp I w [OS 40 popK A 1 [a], OS 40 popK B 1 [b], OS 40 popK A9 c9 [b, ⟨false, 0⟩]]) (fun w h => h) ?_
        refine RV.nil ?_
        refine KV.then_n ?_
        refine KV.env [(0, _), (1, _), (7, _), (9, _)] ⟨rfl, rfl, rfl, rfl, trivial⟩ ?_
        refine CV.seq ?_
        -- region 11 slices.go:154
        refine CV.stillTail 8 (by kernel_rfl) (by kernel_rfl) (fun _ h => h.drew) ?_
        refine SV.step gno (Step.move rfl) rfl ?_
        refine SV.step gno (Step.move rfl) rfl ?_
        refine SV.step gno (Step.move rfl) rfl ?_
        (first | refine SV.step gno (Step.add rfl rfl (wI64 (by omega) (by omega))) rfl ?_ | refine SV.step gno (Step.add rfl rfl rfl) rfl ?_)
        refine SV.step gno (Step.sliceLo Try.underlying35 I40 rfl rfl (1) ((by omega)) (by omega)) rfl ?_
        refine SV.step gno (Step.move rfl) rfl ?_
        refine SV.step gno (Step.move rfl) rfl ?_
        refine SV.step gno (Step.sliceLo Try.underlying35 I40 rfl rfl (0) (rfl) (by omega)) rfl ?_
        refine SV.nil ?_
        show KV _ (wpList _ _ _ _) _ _
        refine RV.op (OV.copy (K := popK) 2 1 (zs := [a]) Try.underlying35 I40 rfl rfl rfl (by simp) rfl rfl (fun w h => (h.os 0 rfl).drop 0 (c := 1) (Nat.le_refl _)) gno rfl ?_)
        refine KV.heap (S' := Hp I w [OS 40 popK A 1 [a], OS 40 popK B 1 [b], OS 40 popK A9 c9 [b, a]]) (fun w h => h) ?_
        refine RV.nil ?_
        refine KV.then_n ?_
        refine KV.env [(9, _)] ⟨rfl, trivial⟩ ?_
        refine CV.seq ?_
        -- region 12 slices.go:155
        refine CV.region ?_
        refine RV.op (OV.step gno (Step.move rfl) rfl ?_)
        refine RV.op (OV.step gno (Step.assign rfl) rfl ?_)
        refine RV.nil ?_
        refine KV.then_n ?_
        refine KV.env [(6, _)] ⟨rfl, trivial⟩ ?_
        refine CV.ret ?_
        refine KV.then_ret ?_
        -- return at r12
        refine KV.sel [2] [_] rfl ?_
        exact KV.ret1 rfl rfl _ (fun _ h => h) ⟨_, _, rfl, rfl⟩
      · -- False
        exfalso; omega

set_option maxRecDepth 100000 in
set_option maxHeartbeats 1000000 in
theorem closure_fn {b : Nat} {vb : Bool} {x : Int} {fz : Nat × Nat} {w : World} (hb : w.heap[b]? = some (.cells #[.bool vb, .int .u64 x] 40 fz)) (y : Pt) : Fx Try.prog 36 [.agg #[.int .u64 y.f, .int .u64 y.v, .int .u64 y.p], .pointer (some ⟨b, 0, none⟩)] w [] no (fun v L => v = .bool (decide (y.f = x)) ∧ L = []) := by
  refine Sv.Fx.body Try.func36 rfl T36 rfl ?_
  intro I hro hI
  refine KV.env [(0, _), (1, _)] ⟨rfl, rfl, trivial⟩ ?_
  refine CV.seq ?_
  -- region 0 perf.go:85
  refine CV.region ?_
  refine RV.op (OV.box (t := 25) #[_, _, _] rfl rfl gno rfl (fun b0_0 => ?_))
  refine RV.op (OV.step gno (Step.assign rfl) rfl ?_)
  refine RV.nil ?_
  refine KV.then_n ?_
  refine KV.env [(1, _), (2, _)] ⟨rfl, rfl, trivial⟩ ?_
  refine CV.seq ?_
  -- region 1 perf.go:85
  refine CV.region ?_
  refine RV.op (OV.step gno (Step.fieldAddr rfl (F25_0 _ _)) rfl ?_)
  refine RV.op (OV.step gno (Step.load Try.underlying23 rfl rfl (fun w h => h.cell 0 rfl rfl)) rfl ?_)
  refine RV.op (OV.step gno (Step.fieldAddr rfl (F40_1 _ _)) rfl ?_)
  refine RV.op (OV.step gno (Step.load Try.underlying23 rfl rfl (fun w h => (cell_of (h.ro hb (hI b)) 1).trans rfl)) rfl ?_)
  refine RV.op (OV.step gno (Step.eql rfl rfl) rfl ?_)
  refine RV.op (OV.step gno (Step.assign rfl) rfl ?_)
  refine RV.nil ?_
  refine KV.then_n ?_
  refine KV.env [(3, _)] ⟨rfl, trivial⟩ ?_
  refine CV.ret ?_
  -- return at r1
  refine KV.sel [] [] rfl ?_
  exact KV.ret1 rfl rfl _ (fun _ h => h) ⟨rfl, rfl⟩

set_option maxRecDepth 100000 in
set_option maxHeartbeats 1000000 in
theorem indexFunc_fn {A : Option Addr} {c : Nat} {ys : List Pt} {b : Nat} {vb : Bool} {x : Int} {fz : Nat × Nat} {w : World} (hb : w.heap[b]? = some (.cells #[.bool vb, .int .u64 x] 40 fz)) (hr : RS w ptK A ys) (hl : ys.length ≤ 1000000) : Fx Try.prog 35 [.slice A ys.length c, .func (.func 36) #[] #[.pointer (some ⟨b, 0, none⟩)]] w [] no (fun v L => v = .int .i64 (idxM ys x) ∧ L = []) := by
  refine Sv.Fx.body Try.func35 rfl T35 rfl ?_
  intro I hro hI
  refine KV.env [(0, _), (1, _)] ⟨rfl, rfl, trivial⟩ ?_
  refine CV.seq ?_
  -- region 0 slices.go:107
  refine CV.region ?_
  refine RV.op (OV.step gno (Step.assign rfl) rfl ?_)
  refine RV.nil ?_
  refine KV.then_n ?_
  refine KV.env [(0, _), (1, _)] ⟨rfl, rfl, trivial⟩ ?_
  refine CV.seq ?_
  refine CV.seq ?_
  -- region 1 slices.go:108
  refine CV.region ?_
  refine RV.op (OV.step gno (Step.move rfl) rfl ?_)
  refine RV.op (OV.step gno (Step.lenSl Try.underlying22 rfl) rfl ?_)
  refine RV.op (OV.step gno (Step.move rfl) rfl ?_)
  refine RV.nil ?_
  refine KV.then_n ?_
  refine KV.env [(0, _), (1, _), (7, _), (8, _)] ⟨rfl, rfl, rfl, rfl, trivial⟩ ?_
  refine CV.block ?_
  -- loop L2; live [0, 1, 7, 8]
  refine KV.sel [] [] rfl ?_
  refine CV.loopI (fun (j : Nat) => j ≤ ys.length ∧ ∀ i, i < j → ¬ (pt ys i).f = x) (fun (j : Nat) => ys.length - j) (fun (j : Nat) => [(0, .slice A ys.length c), (1, .func (.func 36) #[] #[.pointer (some ⟨b, 0, none⟩)]), (7, .int .i64 ys.length), (8, .int .i64 j)]) (fun (j : Nat) => Hp I w []) (0) ⟨Nat.zero_le _, fun _ h => by omega⟩ ⟨rfl, rfl, rfl, rfl, trivial⟩ (fun _ h => h) ?_
  intro j hinv
  refine CV.seq ?_
  -- region 2 slices.go:108
  refine CV.region ?_
  refine RV.op (OV.split gno (Step.lss rfl rfl) rfl (fun cc1 => ?_) (fun cc1 => ?_))
  · -- True
    refine RV.nil ?_
    refine KV.then_n ?_
    refine KV.env [(0, _), (1, _), (7, _), (8, _), (9, _)] ⟨rfl, rfl, rfl, rfl, rfl, trivial⟩ ?_
    refine CV.seq ?_
    refine CV.cond_t rfl ?_
    refine CV.skip ?_
    refine KV.then_n ?_
    refine KV.env [(0, _), (1, _), (7, _), (8, _)] ⟨rfl, rfl, rfl, rfl, trivial⟩ ?_
    refine CV.seq ?_
    refine CV.block ?_
    refine CV.seq ?_
    -- region 3 slices.go:108
    refine CV.region ?_
    refine RV.op (OV.step gno (Step.move rfl) rfl ?_)
    refine RV.op (OV.step gno (Step.assign rfl) rfl ?_)
    refine RV.nil ?_
    refine KV.then_n ?_
    refine KV.env [(0, _), (1, _), (5, _), (7, _), (8, _)] ⟨rfl, rfl, rfl, rfl, rfl, trivial⟩ ?_
    refine CV.seq ?_
    -- region 4 slices.go:109
    refine CV.region ?_
    refine RV.op (OV.step gno (Step.move rfl) rfl ?_)
    refine RV.op (OV.step gno (Step.move rfl) rfl ?_)
    refine RV.op (OV.step gno (Step.move rfl) rfl ?_)
    refine RV.op (OV.step gno (Step.idx Try.underlying22 I25 (fun w h => h.rs hr (fun _ => hI _)) rfl rfl (rfl) _ rfl (by omega)) rfl ?_)
    refine RV.op (OV.step gno (Step.loadN _ Try.underlying25 rfl I25 rfl rfl (fun w h => (h.rs hr (fun _ => hI _)).cells (by omega))) rfl ?_)
    refine RV.op (OV.callv [] (F := []) (caps := [.pointer (some ⟨b, 0, none⟩)]) rfl Try.func36 B36 N36 rfl rfl (fun w h => closure_fn (h.ro hb (hI b)) (ys.getD j ptK.d)) (fun _ hb => hb.elim) gno rfl (fun v L' hp => ?_))
    obtain ⟨rfl, rfl⟩ := hp
    simp only [List.append_nil]
    by_cases hq : (ys.getD j ptK.d).f = x
    · rw [decide_eq_true hq]
      refine RV.nil ?_
      refine KV.then_n ?_
      refine KV.env [(0, _), (1, _), (5, _), (7, _), (8, _), (16, _)] ⟨rfl, rfl, rfl, rfl, rfl, rfl, trivial⟩ ?_
      refine CV.cond_t rfl ?_
      refine CV.seq ?_
      -- region 5 slices.go:110
      refine CV.region ?_
      refine RV.op (OV.step gno (Step.move rfl) rfl ?_)
      refine RV.op (OV.step gno (Step.assign rfl) rfl ?_)
      refine RV.nil ?_
      refine KV.then_n ?_
      refine KV.env [(4, _)] ⟨rfl, trivial⟩ ?_
      refine CV.ret ?_
      refine KV.block_ret ?_
      refine KV.then_ret ?_
      refine KV.then_ret ?_
      refine KV.block_ret ?_
      refine KV.then_ret ?_
      -- return at r5
      refine KV.sel [] [] rfl ?_
      exact KV.ret1 rfl rfl _ (fun _ h => h) ⟨by rw [idxM_some hinv.2 hq (by omega)], rfl⟩
    · rw [decide_eq_false hq]
      refine RV.nil ?_
      refine KV.then_n ?_
      refine KV.env [(0, _), (1, _), (5, _), (7, _), (8, _), (16, _)] ⟨rfl, rfl, rfl, rfl, rfl, rfl, trivial⟩ ?_
      refine CV.cond_f rfl ?_
      refine CV.skip ?_
      refine KV.block_n ?_
      refine KV.then_n ?_
      refine KV.env [(0, _), (1, _), (7, _), (8, _)] ⟨rfl, rfl, rfl, rfl, trivial⟩ ?_
      -- region 6 slices.go:108
      refine CV.region ?_
      (first | refine RV.op (OV.step gno (Step.add rfl rfl (wI64 (by omega) (by omega))) rfl ?_) | refine RV.op (OV.step gno (Step.add rfl rfl rfl) rfl ?_))
      refine RV.op (OV.step gno (Step.move rfl) rfl ?_)
      refine RV.nil ?_
      refine KV.then_n ?_
      refine KV.env [(0, _), (1, _), (7, _), (8, _)] ⟨rfl, rfl, rfl, rfl, trivial⟩ ?_
      refine KV.sel [] [] rfl ?_
      exact KV.loopI (z := j) (j + 1) ⟨by omega, fun i hi => by by_cases e : i = j; (subst e; exact hq); exact hinv.2 i (by omega)⟩ (by omega) ⟨rfl, rfl, rfl, rfl, trivial⟩ (fun _ h => h)
  · -- False
    refine RV.nil ?_
    refine KV.then_n ?_
    refine KV.env [(0, _), (1, _), (7, _), (8, _), (9, _)] ⟨rfl, rfl, rfl, rfl, rfl, trivial⟩ ?_
    refine CV.seq ?_
    refine CV.cond_f rfl ?_
    refine CV.exit ?_
    refine KV.then_exit ?_
    refine KV.then_exit ?_
    refine KV.block_hit ?_
    refine KV.then_n ?_
    refine KV.env [] trivial ?_
    refine CV.seq ?_
    -- region 7 slices.go:113
    refine CV.region ?_
    refine RV.op (OV.step gno (Step.assign rfl) rfl ?_)
    refine RV.nil ?_
    refine KV.then_n ?_
    refine KV.env [(4, _)] ⟨rfl, trivial⟩ ?_
    refine CV.ret ?_
    -- return at r7
    refine KV.sel [] [] rfl ?_
    exact KV.ret1 rfl rfl _ (fun _ h => h) ⟨by rw [idxM_none fun i hi => hinv.2 i (by omega)], rfl⟩

set_option maxRecDepth 100000 in
set_option maxHeartbeats 1000000 in
theorem trans_fn {A : Option Addr} {n c : Nat} {ys : List Pt} {w : World} (hr : RS w ptK A ys) (hn : n = ys.length) (hl : ys.length ≤ 1000000) (a b : Int) : Fx Try.prog 19 [.slice A n c, .int .i64 a, .int .i64 b] w [] no (fun v L => ∃ A2 c2, v = .tuple #[.slice A2 (transM ys a b).1.length c2, .int .i64 (transM ys a b).2] ∧ L = [OS 40 popK A2 c2 (transM ys a b).1]) := by
  subst hn
  refine Sv.Fx.body Try.func19 rfl T19 rfl ?_
  intro I hro hI
  refine KV.env [(0, _), (1, _), (2, _)] ⟨rfl, rfl, rfl, trivial⟩ ?_
  refine CV.seq ?_
  -- region 0 perf.go:54
  refine CV.region ?_
  refine RV.op (OV.step gno (Step.assign rfl) rfl ?_)
  refine RV.op (OV.step gno (Step.assign rfl) rfl ?_)
  refine RV.nil ?_
  refine KV.then_n ?_
  refine KV.env [(0, _), (1, _), (2, _)] ⟨rfl, rfl, rfl, trivial⟩ ?_
  refine CV.seq ?_
  refine CV.seq ?_
  -- region 1 perf.go:55
  refine CV.region ?_
  refine RV.op (OV.step gno (Step.move rfl) rfl ?_)
  refine RV.op (OV.call [] (F := []) Try.func17 B17 N17 rfl rfl (fun w h => check_fn (h.rs hr (fun _ => hI _)) rfl hl) (fun _ hb => hb.elim) gno rfl (fun v L' hp => ?_))
  obtain ⟨rfl, rfl⟩ := hp
  simp only [List.append_nil]
  refine RV.op (OV.step gno (Step.assign rfl) rfl ?_)
  refine RV.nil ?_
  refine KV.then_n ?_
  refine KV.env [(0, _), (1, _), (2, _), (8, _)] ⟨rfl, rfl, rfl, rfl, trivial⟩ ?_
  refine CV.seq ?_
  -- region 2 perf.go:55
  refine CV.region ?_
  refine RV.op (OV.step gno (Step.move rfl) rfl ?_)
  refine RV.op (OV.split gno (Step.neq rfl rfl) rfl (fun hc => ?_) (fun hc => ?_))
  · -- True
    refine RV.nil ?_
    refine KV.then_n ?_
    refine KV.env [(0, _), (1, _), (2, _), (8, _), (14, _)] ⟨rfl, rfl, rfl, rfl, rfl, trivial⟩ ?_
    refine CV.cond_t rfl ?_
    refine CV.seq ?_
    -- region 3 perf.go:56
    refine CV.region ?_
    refine RV.op (OV.step gno (Step.move rfl) rfl ?_)
    refine RV.op (OV.step gno (Step.assign rfl) rfl ?_)
    refine RV.op (OV.step gno (Step.assign rfl) rfl ?_)
    refine RV.nil ?_
    refine KV.then_n ?_
    refine KV.env [(6, _), (7, _)] ⟨rfl, rfl, trivial⟩ ?_
    refine CV.ret ?_
    refine KV.then_ret ?_
    -- return at r3
    refine KV.sel [] [] rfl ?_
    rw [transM_bad hc]
    exact KV.ret2 rfl rfl rfl _ (fun _ h => h.nilOS) ⟨none, 0, rfl, rfl⟩
  · -- False
    refine RV.nil ?_
    refine KV.then_n ?_
    refine KV.env [(0, _), (1, _), (2, _), (8, _), (14, _)] ⟨rfl, rfl, rfl, rfl, rfl, trivial⟩ ?_
    refine CV.cond_f rfl ?_
    refine CV.skip ?_
    refine KV.then_n ?_
    refine KV.env [(0, _), (1, _), (2, _)] ⟨rfl, rfl, rfl, trivial⟩ ?_
    refine CV.seq ?_
    refine CV.seq ?_
    -- region 4 perf.go:58
    refine CV.region ?_
    refine RV.op (OV.step gno (Step.move rfl) rfl ?_)
    refine RV.op (OV.step gno (Step.move rfl) rfl ?_)
    refine RV.op (OV.call [] Try.func33 B33 N33 rfl rfl (fun w h => (isIndex_fn A c ys a).fn w) (fun _ hb => hb.elim) gno rfl (fun v L' hp => ?_))
    obtain ⟨rfl, rfl⟩ := hp
    simp only [List.append_nil]
    by_cases ha : isI ys a
    · rw [decide_eq_true ha]
      refine RV.op (OV.step gno (Step.not rfl) rfl ?_)
      refine RV.op (OV.step gno (Step.move rfl) rfl ?_)
      refine RV.op (OV.step (gyes rfl) (Step.move rfl) rfl ?_)
      refine RV.op (OV.step (gyes rfl) (Step.move rfl) rfl ?_)
      refine RV.op (OV.call [] Try.func33 B33 N33 rfl rfl (fun w h => (isIndex_fn A c ys b).fn w) (fun _ hb => hb.elim) (gyes rfl) rfl (fun v L' hp => ?_))
      obtain ⟨rfl, rfl⟩ := hp
      simp only [List.append_nil]
      by_cases hb : isI ys b
      · rw [decide_eq_true hb]
        refine RV.op (OV.step (gyes rfl) (Step.not rfl) rfl ?_)
        refine RV.op (OV.step gno (Step.pick_f rfl rfl) rfl ?_)
        refine RV.nil ?_
        refine KV.then_n ?_
        refine KV.env [(0, _), (1, _), (2, _), (25, _)] ⟨rfl, rfl, rfl, rfl, trivial⟩ ?_
        refine CV.cond_f rfl ?_
        refine CV.skip ?_
        refine KV.then_n ?_
        refine KV.env [(0, _), (1, _), (2, _)] ⟨rfl, rfl, rfl, trivial⟩ ?_
        refine CV.seq ?_
        refine CV.seq ?_
        -- region 6 perf.go:61
        have hab : isI ys a ∧ isI ys b := ⟨ha, hb⟩
        refine CV.region ?_
        refine RV.op (OV.step gno (Step.move rfl) rfl ?_)
        refine RV.op (OV.step gno (Step.move rfl) rfl ?_)
        refine RV.op (OV.split gno (Step.eql rfl rfl) rfl (fun he => ?_) (fun he => ?_))
        · -- True
          refine RV.nil ?_
          refine KV.then_n ?_
          refine KV.env [(0, _), (1, _), (2, _), (28, _)] ⟨rfl, rfl, rfl, rfl, trivial⟩ ?_
          refine CV.cond_t rfl ?_
          refine CV.seq ?_
          -- region 7 perf.go:62
          refine CV.region ?_
          refine RV.op (OV.step gno (Step.assign rfl) rfl ?_)
          refine RV.op (OV.step gno (Step.assign rfl) rfl ?_)
          refine RV.nil ?_
          refine KV.then_n ?_
          refine KV.env [(6, _), (7, _)] ⟨rfl, rfl, trivial⟩ ?_
          refine CV.ret ?_
          refine KV.then_ret ?_
          -- return at r7
          refine KV.sel [] [] rfl ?_
          rw [transM_same (Decidable.not_not.1 hc) hab he]
          exact KV.ret2 rfl rfl rfl _ (fun _ h => h.nilOS) ⟨none, 0, rfl, rfl⟩
        · -- False
          refine RV.nil ?_
          refine KV.then_n ?_
          refine KV.env [(0, _), (1, _), (2, _), (28, _)] ⟨rfl, rfl, rfl, rfl, trivial⟩ ?_
          refine CV.cond_f rfl ?_
          refine CV.skip ?_
          refine KV.then_n ?_
          refine KV.env [(0, _), (1, _), (2, _)] ⟨rfl, rfl, rfl, trivial⟩ ?_
          refine CV.seq ?_
          -- region 8 perf.go:64
          have hia := hab.1
          have hib := hab.2
          unfold isI at hia hib
          obtain ⟨p, rfl⟩ := Int.eq_ofNat_of_zero_le hia.1
          obtain ⟨q, rfl⟩ := Int.eq_ofNat_of_zero_le hib.1
          refine CV.region ?_
          refine RV.op (OV.step gno (Step.move rfl) rfl ?_)
          refine RV.op (OV.step gno (Step.move rfl) rfl ?_)
          refine RV.op (OV.step gno (Step.idx Try.underlying22 I25 (fun w h => h.rs hr (fun _ => hI _)) rfl rfl (rfl) _ rfl (by omega)) rfl ?_)
          refine RV.op (OV.step gno (Step.fieldAddr rfl (F25_0 _ _)) rfl ?_)
          (first | refine RV.op (OV.step gno (Step.load Try.underlying23 rfl rfl (fun w h => (h.rs hr (fun _ => hI _)).cell (by omega) rfl)) rfl ?_) | refine RV.op (OV.step gno (Step.load Try.underlying23 rfl rfl (fun w h => (h.rs hr (fun _ => hI _)).cell0 (by omega) rfl)) rfl ?_))
          refine RV.op (OV.step gno (Step.build rfl (Bd40_1 _)) rfl ?_)
          refine RV.op (OV.buildSlice (K := popK) ([⟨_, _⟩]) rfl (Bs35_1_0 _ _) rfl rfl (by omega) gno rfl (fun b8_6 => ?_))
          refine RV.op (OV.step gno (Step.assign rfl) rfl ?_)
          refine RV.nil ?_
          refine KV.then_n ?_
          refine KV.env [(0, _), (1, _), (2, _), (9, _)] ⟨rfl, rfl, rfl, rfl, trivial⟩ ?_
          refine CV.seq ?_
          refine CV.seq ?_
          -- region 9 perf.go:65
          refine CV.still (by kernel_rfl) (by kernel_rfl) (fun _ h => h.drew) ?_
          refine SV.step gno (Step.move rfl) rfl ?_
          refine SV.step gno (Step.move rfl) rfl ?_
          refine SV.step gno (Step.idx Try.underlying22 I25 (fun w h => h.rs hr (fun _ => hI _)) rfl rfl (rfl) _ rfl (by omega)) rfl ?_
          refine SV.step gno (Step.fieldAddr rfl (F25_1 _ _)) rfl ?_
          (first | refine SV.step gno (Step.load Try.underlying23 rfl rfl (fun w h => (h.rs hr (fun _ => hI _)).cell (by omega) rfl)) rfl ?_ | refine SV.step gno (Step.load Try.underlying23 rfl rfl (fun w h => (h.rs hr (fun _ => hI _)).cell0 (by omega) rfl)) rfl ?_)
          refine SV.step gno (Step.move rfl) rfl ?_
          refine SV.step gno (Step.move rfl) rfl ?_
          refine SV.step gno (Step.idx Try.underlying22 I25 (fun w h => h.rs hr (fun _ => hI _)) rfl rfl (rfl) _ rfl (by omega)) rfl ?_
          refine SV.step gno (Step.fieldAddr rfl (F25_1 _ _)) rfl ?_
          (first | refine SV.step gno (Step.load Try.underlying23 rfl rfl (fun w h => (h.rs hr (fun _ => hI _)).cell (by omega) rfl)) rfl ?_ | refine SV.step gno (Step.load Try.underlying23 rfl rfl (fun w h => (h.rs hr (fun _ => hI _)).cell0 (by omega) rfl)) rfl ?_)
          refine SV.split gno (Step.eql rfl rfl) rfl (fun hv => ?_) (fun hv => ?_)
          · -- True
            refine SV.nil ?_
            refine KV.then_n ?_
            refine KV.env [(0, _), (1, _), (2, _), (9, _), (46, _)] ⟨rfl, rfl, rfl, rfl, rfl, trivial⟩ ?_
            refine CV.cond_t rfl ?_
            refine CV.seq ?_
            -- region 10 perf.go:66
            refine CV.region ?_
            refine RV.op (OV.step gno (Step.move rfl) rfl ?_)
            refine RV.op (OV.step gno (Step.assign rfl) rfl ?_)
            refine RV.op (OV.step gno (Step.assign rfl) rfl ?_)
            refine RV.nil ?_
            refine KV.then_n ?_
            refine KV.env [(6, _), (7, _)] ⟨rfl, rfl, trivial⟩ ?_
            refine CV.ret ?_
            refine KV.then_ret ?_
            -- return at r10
            refine KV.sel [0] [_] rfl ?_
            rw [transM_v (Decidable.not_not.1 hc) hab he hv]
            exact KV.ret2 rfl rfl rfl _ (fun _ h => h) ⟨_, _, rfl, rfl⟩
          · -- False
            refine SV.nil ?_
            refine KV.then_n ?_
            refine KV.env [(0, _), (1, _), (2, _), (9, _), (46, _)] ⟨rfl, rfl, rfl, rfl, rfl, trivial⟩ ?_
            refine CV.cond_f rfl ?_
            refine CV.skip ?_
            refine KV.then_n ?_
            refine KV.env [(0, _), (1, _), (2, _), (9, _)] ⟨rfl, rfl, rfl, rfl, trivial⟩ ?_
            refine CV.seq ?_
            -- region 11 perf.go:68
            refine CV.region ?_
            refine RV.op (OV.step gno (Step.move rfl) rfl ?_)
            refine RV.op (OV.step gno (Step.move rfl) rfl ?_)
            refine RV.op (OV.step gno (Step.idx Try.underlying22 I25 (fun w h => h.rs hr (fun _ => hI _)) rfl rfl (rfl) _ rfl (by omega)) rfl ?_)
            refine RV.op (OV.step gno (Step.fieldAddr rfl (F25_1 _ _)) rfl ?_)
            (first | refine RV.op (OV.step gno (Step.load Try.underlying23 rfl rfl (fun w h => (h.rs hr (fun _ => hI _)).cell (by omega) rfl)) rfl ?_) | refine RV.op (OV.step gno (Step.load Try.underlying23 rfl rfl (fun w h => (h.rs hr (fun _ => hI _)).cell0 (by omega) rfl)) rfl ?_))
            refine RV.op (OV.step gno (Step.build rfl (Bd40_0_1 _ _)) rfl ?_)
            refine RV.op (OV.alloc #[.bool false, .int .u64 0] I40 rfl gno rfl (fun b11_6 => ?_))
            refine RV.op (OV.store 1 [_, _] #[_, _] I40 rfl rfl rfl rfl rfl (Nat.le_of_ble_eq_true rfl) (by simp [Value.oneCell']) rfl gno ?_)
            refine RV.nil ?_
            refine KV.then_n ?_
            refine KV.env [(1, _), (2, _), (9, _), (10, _)] ⟨rfl, rfl, rfl, rfl, trivial⟩ ?_
            refine CV.seq ?_
            refine CV.seq ?_
            -- region 12 perf.go:69
            refine CV.region ?_
            refine RV.op (OV.step gno (Step.move rfl) rfl ?_)
            refine RV.op (OV.step gno (Step.move rfl) rfl ?_)
            refine RV.op (OV.split gno (Step.gtr rfl rfl) rfl (fun hlt => ?_) (fun hlt => ?_))
            · -- True
              refine RV.nil ?_
              refine KV.then_n ?_
              refine KV.env [(9, _), (10, _), (56, _)] ⟨rfl, rfl, rfl, trivial⟩ ?_
              refine CV.cond_t rfl ?_
              refine CV.seq ?_
              -- region 13 perf.go:70
              refine CV.region ?_
              refine RV.op (OV.step gno (Step.move rfl) rfl ?_)
              (first | refine RV.op (OV.step gno (Step.loadN _ Try.underlying40 rfl I40 rfl rfl (fun w h => h.cells 1 rfl)) rfl ?_) | refine RV.op (OV.step gno (Step.loadN _ Try.underlying40 rfl I40 rfl rfl (fun w h => (h.rs hr (fun _ => hI _)).cells (by omega))) rfl ?_))
              refine RV.op (OV.buildSlice (K := popK) ([⟨_, _⟩]) rfl (Bs35_1_0 _ _) rfl rfl (by omega) gno rfl (fun b13_2 => ?_))
              refine RV.op (OV.call [0, 1] (F := [_]) Try.func34 B34 N34 rfl rfl (fun w h => insert_fn) (fun _ hb => hb.elim) gno rfl (fun v L' hp => ?_))
              obtain ⟨A2, c2, rfl, rfl⟩ := hp
              refine RV.op (OV.step gno (Step.assign rfl) rfl ?_)
              refine RV.op (OV.step gno (Step.assign rfl) rfl ?_)
              refine RV.nil ?_
              refine KV.then_n ?_
              refine KV.env [(6, _), (7, _)] ⟨rfl, rfl, trivial⟩ ?_
              refine CV.ret ?_
              refine KV.then_ret ?_
              -- return at r13
              refine KV.sel [1] [_] rfl ?_
              rw [transM_up (Decidable.not_not.1 hc) hab he hv hlt]
              exact KV.ret2 rfl rfl rfl _ (fun _ h => h) ⟨_, _, rfl, rfl⟩
            · -- False
              refine RV.nil ?_
              refine KV.then_n ?_
              refine KV.env [(9, _), (10, _), (56, _)] ⟨rfl, rfl, rfl, trivial⟩ ?_
              refine CV.cond_f rfl ?_
              refine CV.skip ?_
              refine KV.then_n ?_
              refine KV.env [(9, _), (10, _)] ⟨rfl, rfl, trivial⟩ ?_
              refine CV.seq ?_
              -- region 14 perf.go:72
              refine CV.region ?_
              refine RV.op (OV.step gno (Step.move rfl) rfl ?_)
              (first | refine RV.op (OV.step gno (Step.loadN _ Try.underlying40 rfl I40 rfl rfl (fun w h => h.cells 1 rfl)) rfl ?_) | refine RV.op (OV.step gno (Step.loadN _ Try.underlying40 rfl I40 rfl rfl (fun w h => (h.rs hr (fun _ => hI _)).cells (by omega))) rfl ?_))
              refine RV.op (OV.buildSlice (K := popK) ([⟨_, _⟩]) rfl (Bs35_1_0 _ _) rfl rfl (by omega) gno rfl (fun b14_2 => ?_))
              refine RV.op (OV.append 0 Try.underlying35 I40 rfl rfl rfl rfl rfl rfl (fun w h => h.os 2 rfl) (by simp only [List.length_cons, List.length_nil]; omega) (by simp only [List.length_cons, List.length_nil]; omega) gno rfl (fun b14_3a b14_3c => ?_))
              refine RV.op (OV.step gno (Step.assign rfl) rfl ?_)
              refine RV.op (OV.step gno (Step.assign rfl) rfl ?_)
              refine RV.nil ?_
              refine KV.then_n ?_
              refine KV.env [(6, _), (7, _)] ⟨rfl, rfl, trivial⟩ ?_
              refine CV.ret ?_
              -- return at r14
              refine KV.sel [0] [_] rfl ?_
              rw [transM_dn (Decidable.not_not.1 hc) hab he hv hlt]
              exact KV.ret2 rfl rfl rfl _ (fun _ h => h) ⟨_, _, rfl, rfl⟩
      · rw [decide_eq_false hb]
        refine RV.op (OV.step (gyes rfl) (Step.not rfl) rfl ?_)
        refine RV.op (OV.step gno (Step.pick_f rfl rfl) rfl ?_)
        refine RV.nil ?_
        refine KV.then_n ?_
        refine KV.env [(0, _), (1, _), (2, _), (25, _)] ⟨rfl, rfl, rfl, rfl, trivial⟩ ?_
        refine CV.cond_t rfl ?_
        refine CV.seq ?_
        -- region 5 perf.go:59
        refine CV.region ?_
        refine RV.op (OV.step gno (Step.assign rfl) rfl ?_)
        refine RV.op (OV.step gno (Step.assign rfl) rfl ?_)
        refine RV.nil ?_
        refine KV.then_n ?_
        refine KV.env [(6, _), (7, _)] ⟨rfl, rfl, trivial⟩ ?_
        refine CV.ret ?_
        refine KV.then_ret ?_
        -- return at r5
        refine KV.sel [] [] rfl ?_
        rw [transM_no (Decidable.not_not.1 hc) (fun k => by first | exact ha k.1 | exact hb k.2)]
        exact KV.ret2 rfl rfl rfl _ (fun _ h => h.nilOS) ⟨none, 0, rfl, rfl⟩
    · rw [decide_eq_false ha]
      refine RV.op (OV.step gno (Step.not rfl) rfl ?_)
      refine RV.op (OV.step gno (Step.move rfl) rfl ?_)
      refine RV.op (OV.skip rfl rfl ?_)
      refine RV.op (OV.skip rfl rfl ?_)
      refine RV.op (OV.skip rfl rfl ?_)
      refine RV.op (OV.skip rfl rfl ?_)
      refine RV.op (OV.step gno (Step.pick_t rfl rfl) rfl ?_)
      refine RV.nil ?_
      refine KV.then_n ?_
      refine KV.env [(0, _), (1, _), (2, _), (25, _)] ⟨rfl, rfl, rfl, rfl, trivial⟩ ?_
      refine CV.cond_t rfl ?_
      refine CV.seq ?_
      -- region 5 perf.go:59
      refine CV.region ?_
      refine RV.op (OV.step gno (Step.assign rfl) rfl ?_)
      refine RV.op (OV.step gno (Step.assign rfl) rfl ?_)
      refine RV.nil ?_
      refine KV.then_n ?_
      refine KV.env [(6, _), (7, _)] ⟨rfl, rfl, trivial⟩ ?_
      refine CV.ret ?_
      refine KV.then_ret ?_
      -- return at r5
      refine KV.sel [] [] rfl ?_
      rw [transM_no (Decidable.not_not.1 hc) (fun k => by first | exact ha k.1 | exact hb k.2)]
      exact KV.ret2 rfl rfl rfl _ (fun _ h => h.nilOS) ⟨none, 0, rfl, rfl⟩

set_option maxRecDepth 100000 in
set_option maxHeartbeats 1000000 in
theorem transR_fn {A : Option Addr} {n c : Nat} {ys : List Pt} {w : World} (hr : RS w ptK A ys) (hn : n = ys.length) (hl : ys.length ≤ 1000000) (a b : Int) : Fx Try.prog 20 [.slice A n c, .int .i64 a, .int .i64 b] w [] no (fun v L => ∃ A2 c2, v = .tuple #[.slice A2 (transM ys a b).1.length c2, .int .i64 (transM ys a b).2] ∧ L = [OS 40 popK A2 c2 (transM ys a b).1]) := by
  subst hn
  refine Sv.Fx.body Try.func20 rfl T20 rfl ?_
  intro I hro hI
  refine KV.env [(0, _), (1, _), (2, _)] ⟨rfl, rfl, rfl, trivial⟩ ?_
  refine CV.seq ?_
  -- region 0 ref.go:37
  refine CV.region ?_
  refine RV.op (OV.step gno (Step.assign rfl) rfl ?_)
  refine RV.op (OV.step gno (Step.assign rfl) rfl ?_)
  refine RV.nil ?_
  refine KV.then_n ?_
  refine KV.env [(0, _), (1, _), (2, _)] ⟨rfl, rfl, rfl, trivial⟩ ?_
  refine CV.seq ?_
  refine CV.seq ?_
  -- region 1 ref.go:38
  refine CV.region ?_
  refine RV.op (OV.step gno (Step.move rfl) rfl ?_)
  refine RV.op (OV.call [] (F := []) Try.func18 B18 N18 rfl rfl (fun w h => checkR_fn (h.rs hr (fun _ => hI _)) rfl hl) (fun _ hb => hb.elim) gno rfl (fun v L' hp => ?_))
  obtain ⟨rfl, rfl⟩ := hp
  simp only [List.append_nil]
  refine RV.op (OV.step gno (Step.assign rfl) rfl ?_)
  refine RV.nil ?_
  refine KV.then_n ?_
  refine KV.env [(0, _), (1, _), (2, _), (8, _)] ⟨rfl, rfl, rfl, rfl, trivial⟩ ?_
  refine CV.seq ?_
  -- region 2 ref.go:38
  refine CV.region ?_
  refine RV.op (OV.step gno (Step.move rfl) rfl ?_)
  refine RV.op (OV.split gno (Step.neq rfl rfl) rfl (fun hc => ?_) (fun hc => ?_))
  · -- True
    refine RV.nil ?_
    refine KV.then_n ?_
    refine KV.env [(0, _), (1, _), (2, _), (8, _), (14, _)] ⟨rfl, rfl, rfl, rfl, rfl, trivial⟩ ?_
    refine CV.cond_t rfl ?_
    refine CV.seq ?_
    -- region 3 ref.go:39
    refine CV.region ?_
    refine RV.op (OV.step gno (Step.move rfl) rfl ?_)
    refine RV.op (OV.step gno (Step.assign rfl) rfl ?_)
    refine RV.op (OV.step gno (Step.assign rfl) rfl ?_)
    refine RV.nil ?_
    refine KV.then_n ?_
    refine KV.env [(6, _), (7, _)] ⟨rfl, rfl, trivial⟩ ?_
    refine CV.ret ?_
    refine KV.then_ret ?_
    -- return at r3
    refine KV.sel [] [] rfl ?_
    rw [transM_bad hc]
    exact KV.ret2 rfl rfl rfl _ (fun _ h => h.nilOS) ⟨none, 0, rfl, rfl⟩
  · -- False
    refine RV.nil ?_
    refine KV.then_n ?_
    refine KV.env [(0, _), (1, _), (2, _), (8, _), (14, _)] ⟨rfl, rfl, rfl, rfl, rfl, trivial⟩ ?_
    refine CV.cond_f rfl ?_
    refine CV.skip ?_
    refine KV.then_n ?_
    refine KV.env [(0, _), (1, _), (2, _)] ⟨rfl, rfl, rfl, trivial⟩ ?_
    refine CV.seq ?_
    refine CV.seq ?_
    -- region 4 ref.go:41
    refine CV.region ?_
    refine RV.op (OV.step gno (Step.move rfl) rfl ?_)
    refine RV.op (OV.split gno (Step.lss rfl rfl) rfl (fun cc1 => ?_) (fun cc1 => ?_))
    · -- True
      refine RV.op (OV.step gno (Step.move rfl) rfl ?_)
      refine RV.op (OV.skip rfl rfl ?_)
      refine RV.op (OV.skip rfl rfl ?_)
      refine RV.op (OV.skip rfl rfl ?_)
      refine RV.op (OV.skip rfl rfl ?_)
      refine RV.op (OV.step gno (Step.pick_t rfl rfl) rfl ?_)
      refine RV.op (OV.step gno (Step.move rfl) rfl ?_)
      refine RV.op (OV.skip rfl rfl ?_)
      refine RV.op (OV.skip rfl rfl ?_)
      refine RV.op (OV.step gno (Step.pick_t rfl rfl) rfl ?_)
      refine RV.op (OV.step gno (Step.move rfl) rfl ?_)
      refine RV.op (OV.skip rfl rfl ?_)
      refine RV.op (OV.skip rfl rfl ?_)
      refine RV.op (OV.skip rfl rfl ?_)
      refine RV.op (OV.skip rfl rfl ?_)
      refine RV.op (OV.step gno (Step.pick_t rfl rfl) rfl ?_)
      refine RV.nil ?_
      refine KV.then_n ?_
      refine KV.env [(0, _), (1, _), (2, _), (33, _)] ⟨rfl, rfl, rfl, rfl, trivial⟩ ?_
      refine CV.cond_t rfl ?_
      refine CV.seq ?_
      -- region 5 ref.go:42
      refine CV.region ?_
      refine RV.op (OV.step gno (Step.assign rfl) rfl ?_)
      refine RV.op (OV.step gno (Step.assign rfl) rfl ?_)
      refine RV.nil ?_
      refine KV.then_n ?_
      refine KV.env [(6, _), (7, _)] ⟨rfl, rfl, trivial⟩ ?_
      refine CV.ret ?_
      refine KV.then_ret ?_
      -- return at r5
      refine KV.sel [] [] rfl ?_
      rw [transM_no (Decidable.not_not.1 hc) (fun k => by unfold isI at k; omega)]
      exact KV.ret2 rfl rfl rfl _ (fun _ h => h.nilOS) ⟨none, 0, rfl, rfl⟩
    · -- False
      refine RV.op (OV.step gno (Step.move rfl) rfl ?_)
      refine RV.op (OV.step (gyes rfl) (Step.move rfl) rfl ?_)
      refine RV.op (OV.step (gyes rfl) (Step.move rfl) rfl ?_)
      refine RV.op (OV.step (gyes rfl) (Step.lenSl Try.underlying22 rfl) rfl ?_)
      refine RV.op (OV.split (gyes rfl) (Step.geq rfl rfl) rfl (fun cc2 => ?_) (fun cc2 => ?_))
      · -- True
        refine RV.op (OV.step gno (Step.pick_f rfl rfl) rfl ?_)
        refine RV.op (OV.step gno (Step.move rfl) rfl ?_)
        refine RV.op (OV.skip rfl rfl ?_)
        refine RV.op (OV.skip rfl rfl ?_)
        refine RV.op (OV.step gno (Step.pick_t rfl rfl) rfl ?_)
        refine RV.op (OV.step gno (Step.move rfl) rfl ?_)
        refine RV.op (OV.skip rfl rfl ?_)
        refine RV.op (OV.skip rfl rfl ?_)
        refine RV.op (OV.skip rfl rfl ?_)
        refine RV.op (OV.skip rfl rfl ?_)
        refine RV.op (OV.step gno (Step.pick_t rfl rfl) rfl ?_)
        refine RV.nil ?_
        refine KV.then_n ?_
        refine KV.env [(0, _), (1, _), (2, _), (33, _)] ⟨rfl, rfl, rfl, rfl, trivial⟩ ?_
        refine CV.cond_t rfl ?_
        refine CV.seq ?_
        -- region 5 ref.go:42
        refine CV.region ?_
        refine RV.op (OV.step gno (Step.assign rfl) rfl ?_)
        refine RV.op (OV.step gno (Step.assign rfl) rfl ?_)
        refine RV.nil ?_
        refine KV.then_n ?_
        refine KV.env [(6, _), (7, _)] ⟨rfl, rfl, trivial⟩ ?_
        refine CV.ret ?_
        refine KV.then_ret ?_
        -- return at r5
        refine KV.sel [] [] rfl ?_
        rw [transM_no (Decidable.not_not.1 hc) (fun k => by unfold isI at k; omega)]
        exact KV.ret2 rfl rfl rfl _ (fun _ h => h.nilOS) ⟨none, 0, rfl, rfl⟩
      · -- False
        refine RV.op (OV.step gno (Step.pick_f rfl rfl) rfl ?_)
        refine RV.op (OV.step gno (Step.move rfl) rfl ?_)
        refine RV.op (OV.step (gyes rfl) (Step.move rfl) rfl ?_)
        refine RV.op (OV.split (gyes rfl) (Step.lss rfl rfl) rfl (fun cc3 => ?_) (fun cc3 => ?_))
        · -- True
          refine RV.op (OV.step gno (Step.pick_f rfl rfl) rfl ?_)
          refine RV.op (OV.step gno (Step.move rfl) rfl ?_)
          refine RV.op (OV.skip rfl rfl ?_)
          refine RV.op (OV.skip rfl rfl ?_)
          refine RV.op (OV.skip rfl rfl ?_)
          refine RV.op (OV.skip rfl rfl ?_)
          refine RV.op (OV.step gno (Step.pick_t rfl rfl) rfl ?_)
          refine RV.nil ?_
          refine KV.then_n ?_
          refine KV.env [(0, _), (1, _), (2, _), (33, _)] ⟨rfl, rfl, rfl, rfl, trivial⟩ ?_
          refine CV.cond_t rfl ?_
          refine CV.seq ?_
          -- region 5 ref.go:42
          refine CV.region ?_
          refine RV.op (OV.step gno (Step.assign rfl) rfl ?_)
          refine RV.op (OV.step gno (Step.assign rfl) rfl ?_)
          refine RV.nil ?_
          refine KV.then_n ?_
          refine KV.env [(6, _), (7, _)] ⟨rfl, rfl, trivial⟩ ?_
          refine CV.ret ?_
          refine KV.then_ret ?_
          -- return at r5
          refine KV.sel [] [] rfl ?_
          rw [transM_no (Decidable.not_not.1 hc) (fun k => by unfold isI at k; omega)]
          exact KV.ret2 rfl rfl rfl _ (fun _ h => h.nilOS) ⟨none, 0, rfl, rfl⟩
        · -- False
          refine RV.op (OV.step gno (Step.pick_f rfl rfl) rfl ?_)
          refine RV.op (OV.step gno (Step.move rfl) rfl ?_)
          refine RV.op (OV.step (gyes rfl) (Step.move rfl) rfl ?_)
          refine RV.op (OV.step (gyes rfl) (Step.move rfl) rfl ?_)
          refine RV.op (OV.step (gyes rfl) (Step.lenSl Try.underlying22 rfl) rfl ?_)
          refine RV.op (OV.split (gyes rfl) (Step.geq rfl rfl) rfl (fun cc4 => ?_) (fun cc4 => ?_))
          · -- True
            refine RV.op (OV.step gno (Step.pick_f rfl rfl) rfl ?_)
            refine RV.nil ?_
            refine KV.then_n ?_
            refine KV.env [(0, _), (1, _), (2, _), (33, _)] ⟨rfl, rfl, rfl, rfl, trivial⟩ ?_
            refine CV.cond_t rfl ?_
            refine CV.seq ?_
            -- region 5 ref.go:42
            refine CV.region ?_
            refine RV.op (OV.step gno (Step.assign rfl) rfl ?_)
            refine RV.op (OV.step gno (Step.assign rfl) rfl ?_)
            refine RV.nil ?_
            refine KV.then_n ?_
            refine KV.env [(6, _), (7, _)] ⟨rfl, rfl, trivial⟩ ?_
            refine CV.ret ?_
            refine KV.then_ret ?_
            -- return at r5
            refine KV.sel [] [] rfl ?_
            rw [transM_no (Decidable.not_not.1 hc) (fun k => by unfold isI at k; omega)]
            exact KV.ret2 rfl rfl rfl _ (fun _ h => h.nilOS) ⟨none, 0, rfl, rfl⟩
          · -- False
            refine RV.op (OV.step gno (Step.pick_f rfl rfl) rfl ?_)
            refine RV.nil ?_
            refine KV.then_n ?_
            refine KV.env [(0, _), (1, _), (2, _), (33, _)] ⟨rfl, rfl, rfl, rfl, trivial⟩ ?_
            refine CV.cond_f rfl ?_
            refine CV.skip ?_
            refine KV.then_n ?_
            refine KV.env [(0, _), (1, _), (2, _)] ⟨rfl, rfl, rfl, trivial⟩ ?_
            refine CV.seq ?_
            refine CV.seq ?_
            -- region 6 ref.go:44
            have hab : isI ys a ∧ isI ys b := by unfold isI; omega
            refine CV.region ?_
            refine RV.op (OV.step gno (Step.move rfl) rfl ?_)
            refine RV.op (OV.step gno (Step.move rfl) rfl ?_)
            refine RV.op (OV.split gno (Step.eql rfl rfl) rfl (fun he => ?_) (fun he => ?_))
            · -- True
              refine RV.nil ?_
              refine KV.then_n ?_
              refine KV.env [(0, _), (1, _), (2, _), (36, _)] ⟨rfl, rfl, rfl, rfl, trivial⟩ ?_
              refine CV.cond_t rfl ?_
              refine CV.seq ?_
              -- region 7 ref.go:45
              refine CV.region ?_
              refine RV.op (OV.step gno (Step.assign rfl) rfl ?_)
              refine RV.op (OV.step gno (Step.assign rfl) rfl ?_)
              refine RV.nil ?_
              refine KV.then_n ?_
              refine KV.env [(6, _), (7, _)] ⟨rfl, rfl, trivial⟩ ?_
              refine CV.ret ?_
              refine KV.then_ret ?_
              -- return at r7
              refine KV.sel [] [] rfl ?_
              rw [transM_same (Decidable.not_not.1 hc) hab he]
              exact KV.ret2 rfl rfl rfl _ (fun _ h => h.nilOS) ⟨none, 0, rfl, rfl⟩
            · -- False
              refine RV.nil ?_
              refine KV.then_n ?_
              refine KV.env [(0, _), (1, _), (2, _), (36, _)] ⟨rfl, rfl, rfl, rfl, trivial⟩ ?_
              refine CV.cond_f rfl ?_
              refine CV.skip ?_
              refine KV.then_n ?_
              refine KV.env [(0, _), (1, _), (2, _)] ⟨rfl, rfl, rfl, trivial⟩ ?_
              refine CV.seq ?_
              -- region 8 ref.go:47
              have hia := hab.1
              have hib := hab.2
              unfold isI at hia hib
              obtain ⟨p, rfl⟩ := Int.eq_ofNat_of_zero_le hia.1
              obtain ⟨q, rfl⟩ := Int.eq_ofNat_of_zero_le hib.1
              refine CV.region ?_
              refine RV.op (OV.step gno (Step.move rfl) rfl ?_)
              refine RV.op (OV.step gno (Step.move rfl) rfl ?_)
              refine RV.op (OV.step gno (Step.idx Try.underlying22 I25 (fun w h => h.rs hr (fun _ => hI _)) rfl rfl (rfl) _ rfl (by omega)) rfl ?_)
              refine RV.op (OV.step gno (Step.fieldAddr rfl (F25_1 _ _)) rfl ?_)
              (first | refine RV.op (OV.step gno (Step.load Try.underlying23 rfl rfl (fun w h => (h.rs hr (fun _ => hI _)).cell (by omega) rfl)) rfl ?_) | refine RV.op (OV.step gno (Step.load Try.underlying23 rfl rfl (fun w h => (h.rs hr (fun _ => hI _)).cell0 (by omega) rfl)) rfl ?_))
              refine RV.op (OV.step gno (Step.build rfl (Bd40_0_1 _ _)) rfl ?_)
              refine RV.op (OV.alloc #[.bool false, .int .u64 0] I40 rfl gno rfl (fun b8_6 => ?_))
              refine RV.op (OV.store 0 [_, _] #[_, _] I40 rfl rfl rfl rfl rfl (Nat.le_of_ble_eq_true rfl) (by simp [Value.oneCell']) rfl gno ?_)
              refine RV.nil ?_
              refine KV.then_n ?_
              refine KV.env [(0, _), (1, _), (2, _), (9, _)] ⟨rfl, rfl, rfl, rfl, trivial⟩ ?_
              refine CV.seq ?_
              -- region 9 ref.go:48
              refine CV.region ?_
              refine RV.op (OV.step gno (Step.move rfl) rfl ?_)
              refine RV.op (OV.step gno (Step.move rfl) rfl ?_)
              refine RV.op (OV.step gno (Step.idx Try.underlying22 I25 (fun w h => h.rs hr (fun _ => hI _)) rfl rfl (rfl) _ rfl (by omega)) rfl ?_)
              refine RV.op (OV.step gno (Step.fieldAddr rfl (F25_0 _ _)) rfl ?_)
              (first | refine RV.op (OV.step gno (Step.load Try.underlying23 rfl rfl (fun w h => h.cell 0 rfl rfl)) rfl ?_) | refine RV.op (OV.step gno (Step.load Try.underlying23 rfl rfl (fun w h => (h.rs hr (fun _ => hI _)).cell (by omega) rfl)) rfl ?_) | refine RV.op (OV.step gno (Step.load Try.underlying23 rfl rfl (fun w h => (h.rs hr (fun _ => hI _)).cell0 (by omega) rfl)) rfl ?_))
              refine RV.op (OV.step gno (Step.build rfl (Bd40_1 _)) rfl ?_)
              refine RV.op (OV.alloc #[.bool false, .int .u64 0] I40 rfl gno rfl (fun b9_6 => ?_))
              refine RV.op (OV.store 1 [_, _] #[_, _] I40 rfl rfl rfl rfl rfl (Nat.le_of_ble_eq_true rfl) (by simp [Value.oneCell']) rfl gno ?_)
              refine RV.nil ?_
              refine KV.then_n ?_
              refine KV.env [(0, _), (1, _), (2, _), (9, _), (10, _)] ⟨rfl, rfl, rfl, rfl, rfl, trivial⟩ ?_
              refine CV.seq ?_
              refine CV.seq ?_
              -- region 10 ref.go:49
              refine CV.still (by kernel_rfl) (by kernel_rfl) (fun _ h => h.drew) ?_
              refine SV.step gno (Step.move rfl) rfl ?_
              refine SV.step gno (Step.move rfl) rfl ?_
              refine SV.step gno (Step.idx Try.underlying22 I25 (fun w h => h.rs hr (fun _ => hI _)) rfl rfl (rfl) _ rfl (by omega)) rfl ?_
              refine SV.step gno (Step.fieldAddr rfl (F25_1 _ _)) rfl ?_
              (first | refine SV.step gno (Step.load Try.underlying23 rfl rfl (fun w h => h.cell 0 rfl rfl)) rfl ?_ | refine SV.step gno (Step.load Try.underlying23 rfl rfl (fun w h => h.cell 1 rfl rfl)) rfl ?_ | refine SV.step gno (Step.load Try.underlying23 rfl rfl (fun w h => (h.rs hr (fun _ => hI _)).cell (by omega) rfl)) rfl ?_ | refine SV.step gno (Step.load Try.underlying23 rfl rfl (fun w h => (h.rs hr (fun _ => hI _)).cell0 (by omega) rfl)) rfl ?_)
              refine SV.step gno (Step.move rfl) rfl ?_
              refine SV.step gno (Step.move rfl) rfl ?_
              refine SV.step gno (Step.idx Try.underlying22 I25 (fun w h => h.rs hr (fun _ => hI _)) rfl rfl (rfl) _ rfl (by omega)) rfl ?_
              refine SV.step gno (Step.fieldAddr rfl (F25_1 _ _)) rfl ?_
              (first | refine SV.step gno (Step.load Try.underlying23 rfl rfl (fun w h => h.cell 0 rfl rfl)) rfl ?_ | refine SV.step gno (Step.load Try.underlying23 rfl rfl (fun w h => h.cell 1 rfl rfl)) rfl ?_ | refine SV.step gno (Step.load Try.underlying23 rfl rfl (fun w h => (h.rs hr (fun _ => hI _)).cell (by omega) rfl)) rfl ?_ | refine SV.step gno (Step.load Try.underlying23 rfl rfl (fun w h => (h.rs hr (fun _ => hI _)).cell0 (by omega) rfl)) rfl ?_)
              refine SV.split gno (Step.eql rfl rfl) rfl (fun hv => ?_) (fun hv => ?_)
              · -- True
                refine SV.nil ?_
                refine KV.then_n ?_
                refine KV.env [(1, _), (2, _), (9, _), (10, _), (59, _)] ⟨rfl, rfl, rfl, rfl, rfl, trivial⟩ ?_
                refine CV.cond_t rfl ?_
                refine CV.seq ?_
                -- region 11 ref.go:50
                refine CV.region ?_
                refine RV.op (OV.step gno (Step.loadN _ Try.underlying40 rfl I40 rfl rfl (fun w h => h.cells 1 rfl)) rfl ?_)
                refine RV.op (OV.buildSlice (K := popK) ([⟨_, _⟩]) rfl (Bs35_1_0 _ _) rfl rfl (by omega) gno rfl (fun b11_1 => ?_))
                refine RV.op (OV.step gno (Step.assign rfl) rfl ?_)
                refine RV.op (OV.step gno (Step.assign rfl) rfl ?_)
                refine RV.nil ?_
                refine KV.then_n ?_
                refine KV.env [(6, _), (7, _)] ⟨rfl, rfl, trivial⟩ ?_
                refine CV.ret ?_
                refine KV.then_ret ?_
                -- return at r11
                refine KV.sel [2] [_] rfl ?_
                rw [transM_v (Decidable.not_not.1 hc) hab he hv]
                exact KV.ret2 rfl rfl rfl _ (fun _ h => h) ⟨_, _, rfl, rfl⟩
              · -- False
                refine SV.nil ?_
                refine KV.then_n ?_
                refine KV.env [(1, _), (2, _), (9, _), (10, _), (59, _)] ⟨rfl, rfl, rfl, rfl, rfl, trivial⟩ ?_
                refine CV.cond_f rfl ?_
                refine CV.skip ?_
                refine KV.then_n ?_
                refine KV.env [(1, _), (2, _), (9, _), (10, _)] ⟨rfl, rfl, rfl, rfl, trivial⟩ ?_
                refine CV.seq ?_
                refine CV.seq ?_
                -- region 12 ref.go:52
                refine CV.region ?_
                refine RV.op (OV.step gno (Step.move rfl) rfl ?_)
                refine RV.op (OV.step gno (Step.move rfl) rfl ?_)
                refine RV.op (OV.split gno (Step.gtr rfl rfl) rfl (fun hlt => ?_) (fun hlt => ?_))
                · -- True
                  refine RV.nil ?_
                  refine KV.then_n ?_
                  refine KV.env [(9, _), (10, _), (64, _)] ⟨rfl, rfl, rfl, trivial⟩ ?_
                  refine CV.cond_t rfl ?_
                  refine CV.seq ?_
                  -- region 13 ref.go:53
                  refine CV.region ?_
                  refine RV.op (OV.step gno (Step.loadN _ Try.underlying40 rfl I40 rfl rfl (fun w h => h.cells 0 rfl)) rfl ?_)
                  refine RV.op (OV.step gno (Step.loadN _ Try.underlying40 rfl I40 rfl rfl (fun w h => h.cells 1 rfl)) rfl ?_)
                  refine RV.op (OV.buildSlice (K := popK) ([⟨_, _⟩, ⟨_, _⟩]) rfl (Bs35_2_0_1 _ _ _ _) rfl rfl (by omega) gno rfl (fun b13_2 => ?_))
                  refine RV.op (OV.step gno (Step.assign rfl) rfl ?_)
                  refine RV.op (OV.step gno (Step.assign rfl) rfl ?_)
                  refine RV.nil ?_
                  refine KV.then_n ?_
                  refine KV.env [(6, _), (7, _)] ⟨rfl, rfl, trivial⟩ ?_
                  refine CV.ret ?_
                  refine KV.then_ret ?_
                  -- return at r13
                  refine KV.sel [2] [_] rfl ?_
                  rw [transM_up (Decidable.not_not.1 hc) hab he hv hlt]
                  exact KV.ret2 rfl rfl rfl _ (fun _ h => h) ⟨_, _, rfl, rfl⟩
                · -- False
                  refine RV.nil ?_
                  refine KV.then_n ?_
                  refine KV.env [(9, _), (10, _), (64, _)] ⟨rfl, rfl, rfl, trivial⟩ ?_
                  refine CV.cond_f rfl ?_
                  refine CV.skip ?_
                  refine KV.then_n ?_
                  refine KV.env [(9, _), (10, _)] ⟨rfl, rfl, trivial⟩ ?_
                  refine CV.seq ?_
                  -- region 14 ref.go:55
                  refine CV.region ?_
                  refine RV.op (OV.step gno (Step.loadN _ Try.underlying40 rfl I40 rfl rfl (fun w h => h.cells 1 rfl)) rfl ?_)
                  refine RV.op (OV.step gno (Step.loadN _ Try.underlying40 rfl I40 rfl rfl (fun w h => h.cells 0 rfl)) rfl ?_)
                  refine RV.op (OV.buildSlice (K := popK) ([⟨_, _⟩, ⟨_, _⟩]) rfl (Bs35_2_0_1 _ _ _ _) rfl rfl (by omega) gno rfl (fun b14_2 => ?_))
                  refine RV.op (OV.step gno (Step.assign rfl) rfl ?_)
                  refine RV.op (OV.step gno (Step.assign rfl) rfl ?_)
                  refine RV.nil ?_
                  refine KV.then_n ?_
                  refine KV.env [(6, _), (7, _)] ⟨rfl, rfl, trivial⟩ ?_
                  refine CV.ret ?_
                  -- return at r14
                  refine KV.sel [2] [_] rfl ?_
                  rw [transM_dn (Decidable.not_not.1 hc) hab he hv hlt]
                  exact KV.ret2 rfl rfl rfl _ (fun _ h => h) ⟨_, _, rfl, rfl⟩
end Go.Proofs.Ytaafpnoffdcbnaa
