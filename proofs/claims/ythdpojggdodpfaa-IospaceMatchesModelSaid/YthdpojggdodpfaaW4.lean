/-
  Walks, part 4.
-/
import Derived.Test.YthdpojggdodpfaaTabs
import Derived.Test.YthdpojggdodpfaaW3
import Derived.Test.YthdpojggdodpfaaMdA
set_option linter.unusedSimpArgs false
set_option linter.unusedVariables false
namespace Go.Proofs.Ythdpojggdodpfaa
open Go.Sv Go.Ios
set_option maxRecDepth 100000 in
set_option maxHeartbeats 1000000 in
theorem insert_fn {A B : Option Addr} {n c i : Nat} {p : Option Nat} {ps : List (Option Nat)} {w : World} (hn : n = ps.length) (hi : i ≤ ps.length) (hl : ps.length ≤ 1000) : Fx Try.prog 28 [.slice A n c, .int .i64 i, .slice B 1 1] w [OS 78 ptrK A c ps, OS 78 ptrK B 1 [p]] no (fun v L => ∃ A2 c2, v = .slice A2 (ps.length + 1) c2 ∧ L = [OS 78 ptrK A2 c2 (insL ps i p)]) := by
  subst hn
  refine Sv.Fx.body Try.func28 rfl T28 rfl ?_
  intro I hro hI
  refine KV.env [(0, _), (1, _), (2, _)] ⟨rfl, rfl, rfl, trivial⟩ ?_
  refine KV.have (fun w h => h.osCap 0 rfl) (fun hcap => ?_)
  refine CV.seq ?_
  -- region 0 slices.go:136
  refine CV.region ?_
  refine RV.op (OV.step gno (Step.assign rfl) rfl ?_)
  refine RV.nil ?_
  refine KV.then_n ?_
  refine KV.env [(0, _), (1, _), (2, _)] ⟨rfl, rfl, rfl, trivial⟩ ?_
  refine CV.seq ?_
  -- region 1 slices.go:137
  refine CV.region ?_
  refine RV.op (OV.step gno (Step.move rfl) rfl ?_)
  refine RV.op (OV.step gno (Step.move rfl) rfl ?_)
  refine RV.op (OV.step gno (Step.sliceLo Try.underlying67 I78 rfl rfl (i) (rfl) (by omega)) rfl ?_)
  refine RV.nil ?_
  refine KV.then_n ?_
  refine KV.env [(0, _), (1, _), (2, _)] ⟨rfl, rfl, rfl, trivial⟩ ?_
  refine CV.seq ?_
  -- region 2 slices.go:139
  refine CV.region ?_
  refine RV.op (OV.step gno (Step.move rfl) rfl ?_)
  refine RV.op (OV.step gno (Step.lenSl Try.underlying67 rfl) rfl ?_)
  refine RV.op (OV.step gno (Step.assign rfl) rfl ?_)
  refine RV.nil ?_
  refine KV.then_n ?_
  refine KV.env [(0, _), (1, _), (2, _), (7, _)] ⟨rfl, rfl, rfl, rfl, trivial⟩ ?_
  refine CV.seq ?_
  refine CV.seq ?_
  -- region 3 slices.go:140
  refine CV.region ?_
  refine RV.op (OV.step gno (Step.move rfl) rfl ?_)
  refine RV.op (OV.split gno (Step.eql rfl rfl) rfl (fun cc1 => ?_) (fun cc1 => ?_))
  · -- True
    exfalso; omega
  · -- False
    refine RV.nil ?_
    refine KV.then_n ?_
    refine KV.env [(0, _), (1, _), (2, _), (7, _), (16, _)] ⟨rfl, rfl, rfl, rfl, rfl, trivial⟩ ?_
    refine CV.cond_f rfl ?_
    refine CV.skip ?_
    refine KV.then_n ?_
    refine KV.env [(0, _), (1, _), (2, _), (7, _)] ⟨rfl, rfl, rfl, rfl, trivial⟩ ?_
    refine CV.seq ?_
    -- region 5 slices.go:143
    refine CV.region ?_
    refine RV.op (OV.step gno (Step.move rfl) rfl ?_)
    refine RV.op (OV.step gno (Step.lenSl Try.underlying67 rfl) rfl ?_)
    refine RV.op (OV.step gno (Step.assign rfl) rfl ?_)
    refine RV.nil ?_
    refine KV.then_n ?_
    refine KV.env [(0, _), (1, _), (2, _), (7, _), (8, _)] ⟨rfl, rfl, rfl, rfl, rfl, trivial⟩ ?_
    refine CV.seq ?_
    refine CV.seq ?_
    -- region 6 slices.go:144
    refine CV.region ?_
    refine RV.op (OV.step gno (Step.move rfl) rfl ?_)
    refine RV.op (OV.step gno (Step.move rfl) rfl ?_)
    refine RV.op (OV.split gno (Step.eql rfl rfl) rfl (fun hin => ?_) (fun hin => ?_))
    · -- True
      refine RV.nil ?_
      refine KV.then_n ?_
      refine KV.env [(0, _), (1, _), (2, _), (7, _), (8, _), (22, _)] ⟨rfl, rfl, rfl, rfl, rfl, rfl, trivial⟩ ?_
      refine CV.cond_t rfl ?_
      refine CV.seq ?_
      -- region 7 slices.go:145
      refine CV.region ?_
      refine RV.op (OV.step gno (Step.move rfl) rfl ?_)
      refine RV.op (OV.step gno (Step.move rfl) rfl ?_)
      refine RV.op (OV.append 0 Try.underlying67 I78 rfl rfl rfl rfl rfl rfl (fun w h => h.os 1 rfl) (by simp only [List.length_cons, List.length_nil]; omega) (by simp only [List.length_cons, List.length_nil]; omega) gno rfl (fun b7_2a b7_2c => ?_))
      refine RV.op (OV.step gno (Step.assign rfl) rfl ?_)
      refine RV.nil ?_
      refine KV.then_n ?_
      refine KV.env [(6, _)] ⟨rfl, trivial⟩ ?_
      refine CV.ret ?_
      refine KV.then_ret ?_
      -- return at r7
      refine KV.sel [0] [_] rfl ?_
      exact KV.ret1 rfl rfl _ (fun _ h => h) ⟨_, _, by rw [List.length_append]; rfl, by rw [insE (i := i) p (by omega)]⟩
    · -- False
      refine RV.nil ?_
      refine KV.then_n ?_
      refine KV.env [(0, _), (1, _), (2, _), (7, _), (8, _), (22, _)] ⟨rfl, rfl, rfl, rfl, rfl, rfl, trivial⟩ ?_
      refine CV.cond_f rfl ?_
      refine CV.skip ?_
      refine KV.then_n ?_
      refine KV.env [(0, _), (1, _), (2, _), (7, _), (8, _)] ⟨rfl, rfl, rfl, rfl, rfl, trivial⟩ ?_
      refine CV.seq ?_
      refine CV.seq ?_
      -- region 8 slices.go:147
      refine CV.region ?_
      refine RV.op (OV.step gno (Step.move rfl) rfl ?_)
      refine RV.op (OV.step gno (Step.move rfl) rfl ?_)
      (first | refine RV.op (OV.step gno (Step.add rfl rfl (wI64 (by omega) (by omega))) rfl ?_) | refine RV.op (OV.step gno (Step.add rfl rfl rfl) rfl ?_))
      refine RV.op (OV.step gno (Step.move rfl) rfl ?_)
      refine RV.op (OV.step gno (Step.capSl Try.underlying67 rfl) rfl ?_)
      refine RV.op (OV.split gno (Step.gtr rfl rfl) rfl (fun hgr => ?_) (fun hgr => ?_))
      · -- True
        refine RV.nil ?_
        refine KV.then_n ?_
        refine KV.env [(0, _), (1, _), (2, _), (7, _), (8, _), (31, _)] ⟨rfl, rfl, rfl, rfl, rfl, rfl, trivial⟩ ?_
        refine CV.cond_t rfl ?_
        refine CV.seq ?_
        -- region 9 slices.go:152
        refine CV.region ?_
        refine RV.op (OV.step gno (Step.move rfl) rfl ?_)
        refine RV.op (OV.step gno (Step.move rfl) rfl ?_)
        refine RV.op (OV.step gno (Step.sliceHi Try.underlying67 I78 rfl rfl (i) (rfl) (by omega)) rfl ?_)
        refine RV.op (OV.step gno (Step.move rfl) rfl ?_)
        refine RV.op (OV.step gno (Step.move rfl) rfl ?_)
        (first | refine RV.op (OV.step gno (Step.add rfl rfl (wI64 (by omega) (by omega))) rfl ?_) | refine RV.op (OV.step gno (Step.add rfl rfl rfl) rfl ?_))
        refine RV.op (OV.step gno (Step.move rfl) rfl ?_)
        (first | refine RV.op (OV.step gno (Step.sub rfl rfl (wI64 (by omega) (by omega))) rfl ?_) | refine RV.op (OV.step gno (Step.sub rfl rfl rfl) rfl ?_))
        refine RV.op (OV.appendZ (K := ptrK) (zs := ps.take i) none (ps.length + 1 - i) Try.underlying67 Try.underlying3 I78 rfl rfl rfl (by omega) (by rw [List.length_take]; omega) (fun w h => (h.os 0 rfl).take i) (by omega) (by omega) (by omega) (by omega) (by have := nextcap_le (n := i + (ps.length + 1 - i)) (c := c) (by omega) (by omega); omega) gno rfl (fun A9 c9 hc9 => ?_))
        refine RV.op (OV.step gno (Step.assign rfl) rfl ?_)
        refine RV.nil ?_
        refine KV.then_n ?_
        refine KV.env [(0, _), (1, _), (2, _), (7, _), (9, _)] ⟨rfl, rfl, rfl, rfl, rfl, trivial⟩ ?_
        refine CV.seq ?_
        -- region 10 slices.go:153
        refine CV.region ?_
        refine RV.op (OV.step gno (Step.move rfl) rfl ?_)
        refine RV.op (OV.step gno (Step.move rfl) rfl ?_)
        refine RV.op (OV.step gno (Step.sliceLo Try.underlying67 I78 rfl rfl (i) (rfl) (by omega)) rfl ?_)
        refine RV.op (OV.step gno (Step.move rfl) rfl ?_)
        refine RV.op (OV.copyX (K := ptrK) 2 i (zs := [p]) Try.underlying67 I78 rfl rfl rfl (by first | omega | (simp only [List.length_append, List.length_take, List.length_replicate, List.length_drop, List.length_cons, List.length_nil]; omega)) (by omega) (by first | omega | (simp only [List.length_append, List.length_take, List.length_replicate, List.length_drop, List.length_cons, List.length_nil]; omega)) (fun w h => h.os 1 rfl) gno rfl ?_)
        rw [insA p none (by omega)]
        refine RV.nil ?_
        refine KV.then_n ?_
        refine KV.env [(0, _), (1, _), (7, _), (9, _)] ⟨rfl, rfl, rfl, rfl, trivial⟩ ?_
        refine CV.seq ?_
        -- region 11 slices.go:154
        refine CV.stillTail 8 (by kernel_rfl) (by kernel_rfl) (fun _ h => h.drew) ?_
        refine SV.step gno (Step.move rfl) rfl ?_
        refine SV.step gno (Step.move rfl) rfl ?_
        refine SV.step gno (Step.move rfl) rfl ?_
        (first | refine SV.step gno (Step.add rfl rfl (wI64 (by omega) (by omega))) rfl ?_ | refine SV.step gno (Step.add rfl rfl rfl) rfl ?_)
        refine SV.step gno (Step.sliceLo Try.underlying67 I78 rfl rfl (i + 1) ((by omega)) (by omega)) rfl ?_
        refine SV.step gno (Step.move rfl) rfl ?_
        refine SV.step gno (Step.move rfl) rfl ?_
        refine SV.step gno (Step.sliceLo Try.underlying67 I78 rfl rfl (i) (rfl) (by omega)) rfl ?_
        refine SV.nil ?_
        show KV _ (wpList _ _ _ _) _ _
        refine RV.op (OV.copyX (K := ptrK) 2 (i + 1) (zs := ps.drop i) Try.underlying67 I78 rfl rfl rfl (by first | omega | (simp only [List.length_append, List.length_take, List.length_replicate, List.length_drop, List.length_cons, List.length_nil]; omega)) (by omega) (by first | omega | (simp only [List.length_append, List.length_take, List.length_replicate, List.length_drop, List.length_cons, List.length_nil]; omega)) (fun w h => (h.os 0 rfl).drop i (c := c) hcap.1) gno rfl ?_)
        rw [insB p none (by omega)]
        refine RV.nil ?_
        refine KV.then_n ?_
        refine KV.env [(9, _)] ⟨rfl, trivial⟩ ?_
        refine CV.seq ?_
        -- region 12 slices.go:155
        refine CV.region ?_
        refine RV.op (OV.step gno (Step.move rfl) rfl ?_)
        refine RV.op (OV.step gno (Step.assign rfl) rfl ?_)
        refine RV.nil ?_
        refine KV.then_n ?_
        refine KV.env [(6, _)] ⟨rfl, trivial⟩ ?_
        refine CV.ret ?_
        refine KV.then_ret ?_
        -- return at r12
        refine KV.sel [2] [_] rfl ?_
        exact KV.ret1 rfl rfl _ (fun _ h => h) ⟨_, _, by rw [show i + (ps.length + 1 - i) = ps.length + 1 by omega], rfl⟩
      · -- False
        refine RV.nil ?_
        refine KV.then_n ?_
        refine KV.env [(0, _), (1, _), (2, _), (7, _), (8, _), (31, _)] ⟨rfl, rfl, rfl, rfl, rfl, rfl, trivial⟩ ?_
        refine CV.cond_f rfl ?_
        refine CV.skip ?_
        refine KV.then_n ?_
        refine KV.env [(0, _), (1, _), (2, _), (7, _), (8, _)] ⟨rfl, rfl, rfl, rfl, rfl, trivial⟩ ?_
        refine CV.seq ?_
        -- region 13 slices.go:157
        refine CV.region ?_
        refine RV.op (OV.step gno (Step.move rfl) rfl ?_)
        refine RV.op (OV.step gno (Step.move rfl) rfl ?_)
        refine RV.op (OV.step gno (Step.move rfl) rfl ?_)
        (first | refine RV.op (OV.step gno (Step.add rfl rfl (wI64 (by omega) (by omega))) rfl ?_) | refine RV.op (OV.step gno (Step.add rfl rfl rfl) rfl ?_))
        refine RV.op (OV.step gno (Step.sliceHi Try.underlying67 I78 rfl rfl (ps.length + 1) ((by omega)) (by omega)) rfl ?_)
        refine RV.op (OV.step gno (Step.assign rfl) rfl ?_)
        refine RV.nil ?_
        refine KV.then_n ?_
        refine KV.env [(0, _), (1, _), (2, _), (7, _), (8, _)] ⟨rfl, rfl, rfl, rfl, rfl, trivial⟩ ?_
        refine CV.seq ?_
        refine CV.seq ?_
        -- region 14 slices.go:173
        refine CV.region ?_
        refine RV.op (OV.step gno (Step.move rfl) rfl ?_)
        refine RV.op (OV.step gno (Step.move rfl) rfl ?_)
        refine RV.op (OV.step gno (Step.move rfl) rfl ?_)
        refine RV.op (OV.step gno (Step.move rfl) rfl ?_)
        (first | refine RV.op (OV.step gno (Step.add rfl rfl (wI64 (by omega) (by omega))) rfl ?_) | refine RV.op (OV.step gno (Step.add rfl rfl rfl) rfl ?_))
        refine RV.op (OV.step gno (Step.sliceLo Try.underlying67 I78 rfl rfl (i + 1) ((by omega)) (by omega)) rfl ?_)
        refine RV.op (OV.step gno (Step.callX rfl (fun w h => overlaps_false h 1 0 rfl rfl Try.func49 X49a X49b X49c X49d Try.underlying67 I78 (by omega) (by simp) (i + 1) _ _ _)) rfl ?_)
        refine RV.op (OV.step gno (Step.not rfl) rfl ?_)
        refine RV.nil ?_
        refine KV.then_n ?_
        refine KV.env [(0, _), (1, _), (2, _), (7, _), (8, _), (68, _)] ⟨rfl, rfl, rfl, rfl, rfl, rfl, trivial⟩ ?_
        refine CV.cond_t rfl ?_
        refine CV.seq ?_
        -- region 15 slices.go:178
        refine CV.stillTail 8 (by kernel_rfl) (by kernel_rfl) (fun _ h => h.drew) ?_
        refine SV.step gno (Step.move rfl) rfl ?_
        refine SV.step gno (Step.move rfl) rfl ?_
        refine SV.step gno (Step.move rfl) rfl ?_
        (first | refine SV.step gno (Step.add rfl rfl (wI64 (by omega) (by omega))) rfl ?_ | refine SV.step gno (Step.add rfl rfl rfl) rfl ?_)
        refine SV.step gno (Step.sliceLo Try.underlying67 I78 rfl rfl (i + 1) ((by omega)) (by omega)) rfl ?_
        refine SV.step gno (Step.move rfl) rfl ?_
        refine SV.step gno (Step.move rfl) rfl ?_
        refine SV.step gno (Step.sliceLo Try.underlying67 I78 rfl rfl (i) (rfl) (by omega)) rfl ?_
        refine SV.nil ?_
        show KV _ (wpList _ _ _ _) _ _
        refine RV.op (OV.copyX (K := ptrK) 0 (i + 1) (zs := ps.drop i) Try.underlying67 I78 rfl rfl rfl (by first | omega | (simp only [List.length_append, List.length_take, List.length_replicate, List.length_drop, List.length_cons, List.length_nil]; omega)) (by omega) (by first | omega | (simp only [List.length_append, List.length_take, List.length_replicate, List.length_drop, List.length_cons, List.length_nil]; omega)) (fun w h => (h.os 0 rfl).drop i (c := c) hcap.1) gno rfl ?_)
        rw [insC (by omega)]
        refine RV.nil ?_
        refine KV.then_n ?_
        refine KV.env [(0, _), (1, _), (2, _)] ⟨rfl, rfl, rfl, trivial⟩ ?_
        refine CV.seq ?_
        -- region 16 slices.go:186
        refine CV.region ?_
        refine RV.op (OV.step gno (Step.move rfl) rfl ?_)
        refine RV.op (OV.step gno (Step.move rfl) rfl ?_)
        refine RV.op (OV.step gno (Step.sliceLo Try.underlying67 I78 rfl rfl (i) (rfl) (by omega)) rfl ?_)
        refine RV.op (OV.step gno (Step.move rfl) rfl ?_)
        refine RV.op (OV.copyX (K := ptrK) 0 i (zs := [p]) Try.underlying67 I78 rfl rfl rfl (by first | omega | (simp only [List.length_append, List.length_take, List.length_replicate, List.length_drop, List.length_cons, List.length_nil]; omega)) (by omega) (by first | omega | (simp only [List.length_append, List.length_take, List.length_replicate, List.length_drop, List.length_cons, List.length_nil]; omega)) (fun w h => h.os 1 rfl) gno rfl ?_)
        rw [insD p (by omega)]
        refine RV.nil ?_
        refine KV.then_n ?_
        refine KV.env [(0, _)] ⟨rfl, trivial⟩ ?_
        refine CV.seq ?_
        -- region 17 slices.go:193
        refine CV.region ?_
        refine RV.op (OV.step gno (Step.move rfl) rfl ?_)
        refine RV.op (OV.step gno (Step.assign rfl) rfl ?_)
        refine RV.nil ?_
        refine KV.then_n ?_
        refine KV.env [(6, _)] ⟨rfl, trivial⟩ ?_
        refine CV.ret ?_
        refine KV.then_ret ?_
        -- return at r17
        refine KV.sel [0] [_] rfl ?_
        exact KV.ret1 rfl rfl _ (fun _ h => h) ⟨_, _, rfl, rfl⟩
end Go.Proofs.Ythdpojggdodpfaa
