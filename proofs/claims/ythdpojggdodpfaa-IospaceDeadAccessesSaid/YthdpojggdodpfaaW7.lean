/-
  Walks, part 7.
-/
import Derived.Test.YthdpojggdodpfaaTabs
import Derived.Test.YthdpojggdodpfaaW6
import Derived.Test.YthdpojggdodpfaaMdA
set_option linter.unusedSimpArgs false
set_option linter.unusedVariables false
namespace Go.Proofs.Ythdpojggdodpfaa
open Go.Sv Go.Ios
set_option maxRecDepth 100000 in
set_option maxHeartbeats 1000000 in
theorem deleteF_fn {A : Option Addr} {n c i : Nat} {l : List Flt} {w : World} (hn : n = l.length) (hi : i < l.length) (hl : l.length ≤ 1000) : Fx Try.prog 51 [.slice A n c, .int .i64 i, .int .i64 ((i : Int) + 1)] w [OS 86 fltK A c l] no (fun v L => v = .slice A (l.length - 1) c ∧ L = [OS 86 fltK A c (delL l i)]) := by
  subst hn
  refine Sv.Fx.body Try.func51 rfl T51 rfl ?_
  intro I hro hI
  refine KV.env [(0, _), (1, _), (2, _)] ⟨rfl, rfl, rfl, trivial⟩ ?_
  refine KV.have (fun w h => h.osCap 0 rfl) (fun hcap => ?_)
  refine CV.seq ?_
  -- region 0 slices.go:224
  refine CV.region ?_
  refine RV.op (OV.step gno (Step.assign rfl) rfl ?_)
  refine RV.nil ?_
  refine KV.then_n ?_
  refine KV.env [(0, _), (1, _), (2, _)] ⟨rfl, rfl, rfl, trivial⟩ ?_
  refine CV.seq ?_
  -- region 1 slices.go:225
  refine CV.region ?_
  refine RV.op (OV.step gno (Step.move rfl) rfl ?_)
  refine RV.op (OV.step gno (Step.move rfl) rfl ?_)
  refine RV.op (OV.step gno (Step.move rfl) rfl ?_)
  refine RV.op (OV.step gno (Step.move rfl) rfl ?_)
  refine RV.op (OV.step gno (Step.lenSl Try.underlying69 rfl) rfl ?_)
  refine RV.op (OV.step gno (Step.slice3 Try.underlying69 I86 rfl rfl rfl rfl i (i + 1) l.length rfl (by omega) rfl (by omega) (by omega) (by omega)) rfl ?_)
  refine RV.nil ?_
  refine KV.then_n ?_
  refine KV.env [(0, _), (1, _), (2, _)] ⟨rfl, rfl, rfl, trivial⟩ ?_
  refine CV.seq ?_
  refine CV.seq ?_
  -- region 2 slices.go:227
  refine CV.region ?_
  refine RV.op (OV.step gno (Step.move rfl) rfl ?_)
  refine RV.op (OV.step gno (Step.move rfl) rfl ?_)
  refine RV.op (OV.split gno (Step.eql rfl rfl) rfl (fun cc1 => ?_) (fun cc1 => ?_))
  · -- True
    exfalso; omega
  · -- False
    refine RV.nil ?_
    refine KV.then_n ?_
    refine KV.env [(0, _), (1, _), (2, _), (16, _)] ⟨rfl, rfl, rfl, rfl, trivial⟩ ?_
    refine CV.cond_f rfl ?_
    refine CV.skip ?_
    refine KV.then_n ?_
    refine KV.env [(0, _), (1, _), (2, _)] ⟨rfl, rfl, rfl, trivial⟩ ?_
    refine CV.seq ?_
    -- region 4 slices.go:231
    refine CV.region ?_
    refine RV.op (OV.step gno (Step.move rfl) rfl ?_)
    refine RV.op (OV.step gno (Step.lenSl Try.underlying69 rfl) rfl ?_)
    refine RV.op (OV.step gno (Step.assign rfl) rfl ?_)
    refine RV.nil ?_
    refine KV.then_n ?_
    refine KV.env [(0, _), (1, _), (2, _), (7, _)] ⟨rfl, rfl, rfl, rfl, trivial⟩ ?_
    refine CV.seq ?_
    -- region 5 slices.go:232
    refine CV.stillTail 6 (by kernel_rfl) (by kernel_rfl) (fun _ h => h.drew) ?_
    refine SV.step gno (Step.move rfl) rfl ?_
    refine SV.step gno (Step.move rfl) rfl ?_
    refine SV.step gno (Step.sliceHi Try.underlying69 I86 rfl rfl (i) (rfl) (by omega)) rfl ?_
    refine SV.step gno (Step.move rfl) rfl ?_
    refine SV.step gno (Step.move rfl) rfl ?_
    refine SV.step gno (Step.sliceLo Try.underlying69 I86 rfl rfl (i + 1) ((by omega)) (by omega)) rfl ?_
    refine SV.nil ?_
    show KV _ (wpList _ _ _ _) _ _
    refine RV.op (OV.appendIn (K := fltK) 0 (zs := l.drop (i + 1)) Try.underlying69 I86 rfl rfl rfl (by omega) (by rw [List.length_drop]) (by omega) (fun w h => (h.os 0 rfl).drop (i + 1) (c := c) hcap.1) gno rfl ?_)
    refine RV.op (OV.step gno (Step.assign rfl) rfl ?_)
    refine RV.nil ?_
    refine KV.then_n ?_
    refine KV.env [(0, _), (7, _)] ⟨rfl, rfl, trivial⟩ ?_
    refine CV.seq ?_
    -- region 6 slices.go:233
    refine CV.region ?_
    refine RV.op (OV.step gno (Step.move rfl) rfl ?_)
    refine RV.op (OV.step gno (Step.move rfl) rfl ?_)
    refine RV.op (OV.step gno (Step.lenSl Try.underlying69 rfl) rfl ?_)
    refine RV.op (OV.step gno (Step.move rfl) rfl ?_)
    refine RV.op (OV.step gno (Step.sliceLH Try.underlying69 I86 rfl rfl rfl (i + (l.length - (i + 1))) l.length rfl rfl (by omega) (by omega)) rfl ?_)
    refine RV.op (OV.clearTail0 (K := fltK) 0 (i + (l.length - (i + 1))) Try.underlying69 I86 rfl (by simp [Value.cells, Value.oneCell']) rfl rfl (by simp only [List.length_append, List.length_take, List.length_drop]; omega) (by omega) gno ?_)
    refine RV.nil ?_
    refine KV.then_n ?_
    refine KV.env [(0, _)] ⟨rfl, trivial⟩ ?_
    refine CV.seq ?_
    -- region 7 slices.go:234
    refine CV.region ?_
    refine RV.op (OV.step gno (Step.move rfl) rfl ?_)
    refine RV.op (OV.step gno (Step.assign rfl) rfl ?_)
    refine RV.nil ?_
    refine KV.then_n ?_
    refine KV.env [(6, _)] ⟨rfl, trivial⟩ ?_
    refine CV.ret ?_
    -- return at r7
    refine KV.sel [0] [_] rfl ?_
    exact KV.ret1 rfl rfl _ (fun _ h => h) ⟨by rw [show i + (l.length - (i + 1)) = l.length - 1 by omega], rfl⟩

set_option maxRecDepth 100000 in
set_option maxHeartbeats 1000000 in
theorem wellFormed_fn (a : Acs) {w : World} : Fx Try.prog 29 [.agg #[.int .i64 a.space, .int .u64 a.addr, .int .i64 a.width, .bool a.wr, .int .u64 a.val]] w [] no (fun v L => v = .bool (decide (wfA a)) ∧ L = []) := by
  refine Sv.Fx.body Try.func29 rfl T29 rfl ?_
  intro I hro hI
  refine KV.env [(0, _)] ⟨rfl, trivial⟩ ?_
  refine CV.seq ?_
  -- region 0 iospace.go:134
  refine CV.region ?_
  refine RV.op (OV.box (t := 37) #[_, _, _, _, _] rfl rfl gno rfl (fun b0_0 => ?_))
  refine RV.op (OV.step gno (Step.assign rfl) rfl ?_)
  refine RV.nil ?_
  refine KV.then_n ?_
  refine KV.env [(1, _)] ⟨rfl, trivial⟩ ?_
  refine CV.seq ?_
  refine CV.seq ?_
  -- region 1 iospace.go:135
  refine CV.region ?_
  refine RV.op (OV.step gno (Step.fieldAddr rfl (F37_2 _ _)) rfl ?_)
  refine RV.op (OV.step gno (Step.load Try.underlying3 rfl rfl (fun w h => h.cell 0 rfl rfl)) rfl ?_)
  refine RV.nil ?_
  refine KV.then_n ?_
  refine KV.env [(1, _), (4, _)] ⟨rfl, rfl, trivial⟩ ?_
  refine CV.block ?_
  refine CV.seq ?_
  refine CV.seq ?_
  -- region 2 iospace.go:136
  refine CV.region ?_
  refine RV.op (OV.split gno (Step.eql rfl rfl) rfl (fun w1 => ?_) (fun w1 => ?_))
  · -- True
    refine RV.op (OV.step gno (Step.assign rfl) rfl ?_)
    refine RV.nil ?_
    refine KV.then_n ?_
    refine KV.env [(1, _), (4, _), (5, _)] ⟨rfl, rfl, rfl, trivial⟩ ?_
    refine CV.cond_t rfl ?_
    refine CV.skip ?_
    refine KV.then_n ?_
    refine KV.env [(1, _), (5, _)] ⟨rfl, rfl, trivial⟩ ?_
    refine CV.cond_t rfl ?_
    refine CV.seq ?_
    -- region 6 iospace.go:137
    have hW : isW a.width := by unfold isW; omega
    have hW1 : 1 ≤ a.width ∧ a.width ≤ 8 := by omega
    refine CV.region ?_
    refine RV.op (OV.step gno (Step.fieldAddr rfl (F37_0 _ _)) rfl ?_)
    refine RV.op (OV.step gno (Step.load Try.underlying3 rfl rfl (fun w h => h.cell 0 rfl rfl)) rfl ?_)
    refine RV.op (OV.call [] Try.func23 B23 N23 rfl rfl (fun w h => (validSpace_fn a.space).fn w) (fun _ hb => hb.elim) gno rfl (fun v L' hp => ?_))
    obtain ⟨rfl, rfl⟩ := hp
    simp only [List.append_nil]
    by_cases hz : 0 ≤ a.space ∧ a.space < 3
    · rw [decide_eq_true hz]
      refine RV.op (OV.step gno (Step.move rfl) rfl ?_)
      refine RV.op (OV.step (gyes rfl) (Step.fieldAddr rfl (F37_1 _ _)) rfl ?_)
      refine RV.op (OV.step (gyes rfl) (Step.load Try.underlying22 rfl rfl (fun w h => h.cell 0 rfl rfl)) rfl ?_)
      refine RV.op (OV.step (gyes rfl) (Step.fieldAddr rfl (F37_2 _ _)) rfl ?_)
      refine RV.op (OV.step (gyes rfl) (Step.load Try.underlying3 rfl rfl (fun w h => h.cell 0 rfl rfl)) rfl ?_)
      (first | refine RV.op (OV.step (gyes rfl) (Step.convI Try.underlying3 Try.underlying22 rfl (wU64 (by omega) (by omega))) rfl ?_) | refine RV.op (OV.step (gyes rfl) (Step.convI Try.underlying3 Try.underlying22 rfl rfl) rfl ?_))
      refine RV.op (OV.step (gyes rfl) (Step.rem rfl rfl (by omega) (rfl)) rfl ?_)
      refine RV.op (OV.split (gyes rfl) (Step.eql rfl rfl) rfl (fun hr => ?_) (fun hr => ?_))
      · -- True
        refine RV.op (OV.step gno (Step.pick_t rfl rfl) rfl ?_)
        refine RV.op (OV.step gno (Step.assign rfl) rfl ?_)
        refine RV.nil ?_
        refine KV.then_n ?_
        refine KV.env [(2, _)] ⟨rfl, trivial⟩ ?_
        refine CV.ret ?_
        refine KV.block_ret ?_
        refine KV.then_ret ?_
        -- return at r6
        refine KV.sel [] [] rfl ?_
        first | (exact KV.ret1 rfl rfl _ (fun _ h => h) ⟨by rw [decide_eq_true (show wfA a from ⟨hW, hz, hr⟩)], rfl⟩) | (exact KV.ret1 rfl rfl _ (fun _ h => h) ⟨by rw [decide_eq_false (show ¬ wfA a from fun k => by first | exact hz k.2.1 | exact hr k.2.2)], rfl⟩)
      · -- False
        refine RV.op (OV.step gno (Step.pick_t rfl rfl) rfl ?_)
        refine RV.op (OV.step gno (Step.assign rfl) rfl ?_)
        refine RV.nil ?_
        refine KV.then_n ?_
        refine KV.env [(2, _)] ⟨rfl, trivial⟩ ?_
        refine CV.ret ?_
        refine KV.block_ret ?_
        refine KV.then_ret ?_
        -- return at r6
        refine KV.sel [] [] rfl ?_
        first | (exact KV.ret1 rfl rfl _ (fun _ h => h) ⟨by rw [decide_eq_true (show wfA a from ⟨hW, hz, hr⟩)], rfl⟩) | (exact KV.ret1 rfl rfl _ (fun _ h => h) ⟨by rw [decide_eq_false (show ¬ wfA a from fun k => by first | exact hz k.2.1 | exact hr k.2.2)], rfl⟩)
    · rw [decide_eq_false hz]
      refine RV.op (OV.step gno (Step.move rfl) rfl ?_)
      refine RV.op (OV.skip rfl rfl ?_)
      refine RV.op (OV.skip rfl rfl ?_)
      refine RV.op (OV.skip rfl rfl ?_)
      refine RV.op (OV.skip rfl rfl ?_)
      refine RV.op (OV.skip rfl rfl ?_)
      refine RV.op (OV.skip rfl rfl ?_)
      refine RV.op (OV.skip rfl rfl ?_)
      refine RV.op (OV.step gno (Step.pick_f rfl rfl) rfl ?_)
      refine RV.op (OV.step gno (Step.assign rfl) rfl ?_)
      refine RV.nil ?_
      refine KV.then_n ?_
      refine KV.env [(2, _)] ⟨rfl, trivial⟩ ?_
      refine CV.ret ?_
      refine KV.block_ret ?_
      refine KV.then_ret ?_
      -- return at r6
      refine KV.sel [] [] rfl ?_
      first | (exact KV.ret1 rfl rfl _ (fun _ h => h) ⟨by rw [decide_eq_true (show wfA a from ⟨hW, hz, hr⟩)], rfl⟩) | (exact KV.ret1 rfl rfl _ (fun _ h => h) ⟨by rw [decide_eq_false (show ¬ wfA a from fun k => by first | exact hz k.2.1 | exact hr k.2.2)], rfl⟩)
  · -- False
    refine RV.op (OV.step gno (Step.assign rfl) rfl ?_)
    refine RV.nil ?_
    refine KV.then_n ?_
    refine KV.env [(1, _), (4, _), (5, _)] ⟨rfl, rfl, rfl, trivial⟩ ?_
    refine CV.cond_f rfl ?_
    refine CV.seq ?_
    -- region 3 iospace.go:136
    refine CV.region ?_
    refine RV.op (OV.split gno (Step.eql rfl rfl) rfl (fun w2 => ?_) (fun w2 => ?_))
    · -- True
      refine RV.op (OV.step gno (Step.assign rfl) rfl ?_)
      refine RV.nil ?_
      refine KV.then_n ?_
      refine KV.env [(1, _), (4, _), (5, _)] ⟨rfl, rfl, rfl, trivial⟩ ?_
      refine CV.cond_t rfl ?_
      refine CV.skip ?_
      refine KV.then_n ?_
      refine KV.env [(1, _), (5, _)] ⟨rfl, rfl, trivial⟩ ?_
      refine CV.cond_t rfl ?_
      refine CV.seq ?_
      -- region 6 iospace.go:137
      have hW : isW a.width := by unfold isW; omega
      have hW1 : 1 ≤ a.width ∧ a.width ≤ 8 := by omega
      refine CV.region ?_
      refine RV.op (OV.step gno (Step.fieldAddr rfl (F37_0 _ _)) rfl ?_)
      refine RV.op (OV.step gno (Step.load Try.underlying3 rfl rfl (fun w h => h.cell 0 rfl rfl)) rfl ?_)
      refine RV.op (OV.call [] Try.func23 B23 N23 rfl rfl (fun w h => (validSpace_fn a.space).fn w) (fun _ hb => hb.elim) gno rfl (fun v L' hp => ?_))
      obtain ⟨rfl, rfl⟩ := hp
      simp only [List.append_nil]
      by_cases hz : 0 ≤ a.space ∧ a.space < 3
      · rw [decide_eq_true hz]
        refine RV.op (OV.step gno (Step.move rfl) rfl ?_)
        refine RV.op (OV.step (gyes rfl) (Step.fieldAddr rfl (F37_1 _ _)) rfl ?_)
        refine RV.op (OV.step (gyes rfl) (Step.load Try.underlying22 rfl rfl (fun w h => h.cell 0 rfl rfl)) rfl ?_)
        refine RV.op (OV.step (gyes rfl) (Step.fieldAddr rfl (F37_2 _ _)) rfl ?_)
        refine RV.op (OV.step (gyes rfl) (Step.load Try.underlying3 rfl rfl (fun w h => h.cell 0 rfl rfl)) rfl ?_)
        (first | refine RV.op (OV.step (gyes rfl) (Step.convI Try.underlying3 Try.underlying22 rfl (wU64 (by omega) (by omega))) rfl ?_) | refine RV.op (OV.step (gyes rfl) (Step.convI Try.underlying3 Try.underlying22 rfl rfl) rfl ?_))
        refine RV.op (OV.step (gyes rfl) (Step.rem rfl rfl (by omega) (rfl)) rfl ?_)
        refine RV.op (OV.split (gyes rfl) (Step.eql rfl rfl) rfl (fun hr => ?_) (fun hr => ?_))
        · -- True
          refine RV.op (OV.step gno (Step.pick_t rfl rfl) rfl ?_)
          refine RV.op (OV.step gno (Step.assign rfl) rfl ?_)
          refine RV.nil ?_
          refine KV.then_n ?_
          refine KV.env [(2, _)] ⟨rfl, trivial⟩ ?_
          refine CV.ret ?_
          refine KV.block_ret ?_
          refine KV.then_ret ?_
          -- return at r6
          refine KV.sel [] [] rfl ?_
          first | (exact KV.ret1 rfl rfl _ (fun _ h => h) ⟨by rw [decide_eq_true (show wfA a from ⟨hW, hz, hr⟩)], rfl⟩) | (exact KV.ret1 rfl rfl _ (fun _ h => h) ⟨by rw [decide_eq_false (show ¬ wfA a from fun k => by first | exact hz k.2.1 | exact hr k.2.2)], rfl⟩)
        · -- False
          refine RV.op (OV.step gno (Step.pick_t rfl rfl) rfl ?_)
          refine RV.op (OV.step gno (Step.assign rfl) rfl ?_)
          refine RV.nil ?_
          refine KV.then_n ?_
          refine KV.env [(2, _)] ⟨rfl, trivial⟩ ?_
          refine CV.ret ?_
          refine KV.block_ret ?_
          refine KV.then_ret ?_
          -- return at r6
          refine KV.sel [] [] rfl ?_
          first | (exact KV.ret1 rfl rfl _ (fun _ h => h) ⟨by rw [decide_eq_true (show wfA a from ⟨hW, hz, hr⟩)], rfl⟩) | (exact KV.ret1 rfl rfl _ (fun _ h => h) ⟨by rw [decide_eq_false (show ¬ wfA a from fun k => by first | exact hz k.2.1 | exact hr k.2.2)], rfl⟩)
      · rw [decide_eq_false hz]
        refine RV.op (OV.step gno (Step.move rfl) rfl ?_)
        refine RV.op (OV.skip rfl rfl ?_)
        refine RV.op (OV.skip rfl rfl ?_)
        refine RV.op (OV.skip rfl rfl ?_)
        refine RV.op (OV.skip rfl rfl ?_)
        refine RV.op (OV.skip rfl rfl ?_)
        refine RV.op (OV.skip rfl rfl ?_)
        refine RV.op (OV.skip rfl rfl ?_)
        refine RV.op (OV.step gno (Step.pick_f rfl rfl) rfl ?_)
        refine RV.op (OV.step gno (Step.assign rfl) rfl ?_)
        refine RV.nil ?_
        refine KV.then_n ?_
        refine KV.env [(2, _)] ⟨rfl, trivial⟩ ?_
        refine CV.ret ?_
        refine KV.block_ret ?_
        refine KV.then_ret ?_
        -- return at r6
        refine KV.sel [] [] rfl ?_
        first | (exact KV.ret1 rfl rfl _ (fun _ h => h) ⟨by rw [decide_eq_true (show wfA a from ⟨hW, hz, hr⟩)], rfl⟩) | (exact KV.ret1 rfl rfl _ (fun _ h => h) ⟨by rw [decide_eq_false (show ¬ wfA a from fun k => by first | exact hz k.2.1 | exact hr k.2.2)], rfl⟩)
    · -- False
      refine RV.op (OV.step gno (Step.assign rfl) rfl ?_)
      refine RV.nil ?_
      refine KV.then_n ?_
      refine KV.env [(1, _), (4, _), (5, _)] ⟨rfl, rfl, rfl, trivial⟩ ?_
      refine CV.cond_f rfl ?_
      refine CV.seq ?_
      -- region 4 iospace.go:136
      refine CV.region ?_
      refine RV.op (OV.split gno (Step.eql rfl rfl) rfl (fun w4 => ?_) (fun w4 => ?_))
      · -- True
        refine RV.op (OV.step gno (Step.assign rfl) rfl ?_)
        refine RV.nil ?_
        refine KV.then_n ?_
        refine KV.env [(1, _), (4, _), (5, _)] ⟨rfl, rfl, rfl, trivial⟩ ?_
        refine CV.cond_t rfl ?_
        refine CV.skip ?_
        refine KV.then_n ?_
        refine KV.env [(1, _), (5, _)] ⟨rfl, rfl, trivial⟩ ?_
        refine CV.cond_t rfl ?_
        refine CV.seq ?_
        -- region 6 iospace.go:137
        have hW : isW a.width := by unfold isW; omega
        have hW1 : 1 ≤ a.width ∧ a.width ≤ 8 := by omega
        refine CV.region ?_
        refine RV.op (OV.step gno (Step.fieldAddr rfl (F37_0 _ _)) rfl ?_)
        refine RV.op (OV.step gno (Step.load Try.underlying3 rfl rfl (fun w h => h.cell 0 rfl rfl)) rfl ?_)
        refine RV.op (OV.call [] Try.func23 B23 N23 rfl rfl (fun w h => (validSpace_fn a.space).fn w) (fun _ hb => hb.elim) gno rfl (fun v L' hp => ?_))
        obtain ⟨rfl, rfl⟩ := hp
        simp only [List.append_nil]
        by_cases hz : 0 ≤ a.space ∧ a.space < 3
        · rw [decide_eq_true hz]
          refine RV.op (OV.step gno (Step.move rfl) rfl ?_)
          refine RV.op (OV.step (gyes rfl) (Step.fieldAddr rfl (F37_1 _ _)) rfl ?_)
          refine RV.op (OV.step (gyes rfl) (Step.load Try.underlying22 rfl rfl (fun w h => h.cell 0 rfl rfl)) rfl ?_)
          refine RV.op (OV.step (gyes rfl) (Step.fieldAddr rfl (F37_2 _ _)) rfl ?_)
          refine RV.op (OV.step (gyes rfl) (Step.load Try.underlying3 rfl rfl (fun w h => h.cell 0 rfl rfl)) rfl ?_)
          (first | refine RV.op (OV.step (gyes rfl) (Step.convI Try.underlying3 Try.underlying22 rfl (wU64 (by omega) (by omega))) rfl ?_) | refine RV.op (OV.step (gyes rfl) (Step.convI Try.underlying3 Try.underlying22 rfl rfl) rfl ?_))
          refine RV.op (OV.step (gyes rfl) (Step.rem rfl rfl (by omega) (rfl)) rfl ?_)
          refine RV.op (OV.split (gyes rfl) (Step.eql rfl rfl) rfl (fun hr => ?_) (fun hr => ?_))
          · -- True
            refine RV.op (OV.step gno (Step.pick_t rfl rfl) rfl ?_)
            refine RV.op (OV.step gno (Step.assign rfl) rfl ?_)
            refine RV.nil ?_
            refine KV.then_n ?_
            refine KV.env [(2, _)] ⟨rfl, trivial⟩ ?_
            refine CV.ret ?_
            refine KV.block_ret ?_
            refine KV.then_ret ?_
            -- return at r6
            refine KV.sel [] [] rfl ?_
            first | (exact KV.ret1 rfl rfl _ (fun _ h => h) ⟨by rw [decide_eq_true (show wfA a from ⟨hW, hz, hr⟩)], rfl⟩) | (exact KV.ret1 rfl rfl _ (fun _ h => h) ⟨by rw [decide_eq_false (show ¬ wfA a from fun k => by first | exact hz k.2.1 | exact hr k.2.2)], rfl⟩)
          · -- False
            refine RV.op (OV.step gno (Step.pick_t rfl rfl) rfl ?_)
            refine RV.op (OV.step gno (Step.assign rfl) rfl ?_)
            refine RV.nil ?_
            refine KV.then_n ?_
            refine KV.env [(2, _)] ⟨rfl, trivial⟩ ?_
            refine CV.ret ?_
            refine KV.block_ret ?_
            refine KV.then_ret ?_
            -- return at r6
            refine KV.sel [] [] rfl ?_
            first | (exact KV.ret1 rfl rfl _ (fun _ h => h) ⟨by rw [decide_eq_true (show wfA a from ⟨hW, hz, hr⟩)], rfl⟩) | (exact KV.ret1 rfl rfl _ (fun _ h => h) ⟨by rw [decide_eq_false (show ¬ wfA a from fun k => by first | exact hz k.2.1 | exact hr k.2.2)], rfl⟩)
        · rw [decide_eq_false hz]
          refine RV.op (OV.step gno (Step.move rfl) rfl ?_)
          refine RV.op (OV.skip rfl rfl ?_)
          refine RV.op (OV.skip rfl rfl ?_)
          refine RV.op (OV.skip rfl rfl ?_)
          refine RV.op (OV.skip rfl rfl ?_)
          refine RV.op (OV.skip rfl rfl ?_)
          refine RV.op (OV.skip rfl rfl ?_)
          refine RV.op (OV.skip rfl rfl ?_)
          refine RV.op (OV.step gno (Step.pick_f rfl rfl) rfl ?_)
          refine RV.op (OV.step gno (Step.assign rfl) rfl ?_)
          refine RV.nil ?_
          refine KV.then_n ?_
          refine KV.env [(2, _)] ⟨rfl, trivial⟩ ?_
          refine CV.ret ?_
          refine KV.block_ret ?_
          refine KV.then_ret ?_
          -- return at r6
          refine KV.sel [] [] rfl ?_
          first | (exact KV.ret1 rfl rfl _ (fun _ h => h) ⟨by rw [decide_eq_true (show wfA a from ⟨hW, hz, hr⟩)], rfl⟩) | (exact KV.ret1 rfl rfl _ (fun _ h => h) ⟨by rw [decide_eq_false (show ¬ wfA a from fun k => by first | exact hz k.2.1 | exact hr k.2.2)], rfl⟩)
      · -- False
        refine RV.op (OV.step gno (Step.assign rfl) rfl ?_)
        refine RV.nil ?_
        refine KV.then_n ?_
        refine KV.env [(1, _), (4, _), (5, _)] ⟨rfl, rfl, rfl, trivial⟩ ?_
        refine CV.cond_f rfl ?_
        -- region 5 iospace.go:136
        refine CV.region ?_
        refine RV.op (OV.split gno (Step.eql rfl rfl) rfl (fun w8 => ?_) (fun w8 => ?_))
        · -- True
          refine RV.op (OV.step gno (Step.assign rfl) rfl ?_)
          refine RV.nil ?_
          refine KV.then_n ?_
          refine KV.env [(1, _), (5, _)] ⟨rfl, rfl, trivial⟩ ?_
          refine CV.cond_t rfl ?_
          refine CV.seq ?_
          -- region 6 iospace.go:137
          have hW : isW a.width := by unfold isW; omega
          have hW1 : 1 ≤ a.width ∧ a.width ≤ 8 := by omega
          refine CV.region ?_
          refine RV.op (OV.step gno (Step.fieldAddr rfl (F37_0 _ _)) rfl ?_)
          refine RV.op (OV.step gno (Step.load Try.underlying3 rfl rfl (fun w h => h.cell 0 rfl rfl)) rfl ?_)
          refine RV.op (OV.call [] Try.func23 B23 N23 rfl rfl (fun w h => (validSpace_fn a.space).fn w) (fun _ hb => hb.elim) gno rfl (fun v L' hp => ?_))
          obtain ⟨rfl, rfl⟩ := hp
          simp only [List.append_nil]
          by_cases hz : 0 ≤ a.space ∧ a.space < 3
          · rw [decide_eq_true hz]
            refine RV.op (OV.step gno (Step.move rfl) rfl ?_)
            refine RV.op (OV.step (gyes rfl) (Step.fieldAddr rfl (F37_1 _ _)) rfl ?_)
            refine RV.op (OV.step (gyes rfl) (Step.load Try.underlying22 rfl rfl (fun w h => h.cell 0 rfl rfl)) rfl ?_)
            refine RV.op (OV.step (gyes rfl) (Step.fieldAddr rfl (F37_2 _ _)) rfl ?_)
            refine RV.op (OV.step (gyes rfl) (Step.load Try.underlying3 rfl rfl (fun w h => h.cell 0 rfl rfl)) rfl ?_)
            (first | refine RV.op (OV.step (gyes rfl) (Step.convI Try.underlying3 Try.underlying22 rfl (wU64 (by omega) (by omega))) rfl ?_) | refine RV.op (OV.step (gyes rfl) (Step.convI Try.underlying3 Try.underlying22 rfl rfl) rfl ?_))
            refine RV.op (OV.step (gyes rfl) (Step.rem rfl rfl (by omega) (rfl)) rfl ?_)
            refine RV.op (OV.split (gyes rfl) (Step.eql rfl rfl) rfl (fun hr => ?_) (fun hr => ?_))
            · -- True
              refine RV.op (OV.step gno (Step.pick_t rfl rfl) rfl ?_)
              refine RV.op (OV.step gno (Step.assign rfl) rfl ?_)
              refine RV.nil ?_
              refine KV.then_n ?_
              refine KV.env [(2, _)] ⟨rfl, trivial⟩ ?_
              refine CV.ret ?_
              refine KV.block_ret ?_
              refine KV.then_ret ?_
              -- return at r6
              refine KV.sel [] [] rfl ?_
              first | (exact KV.ret1 rfl rfl _ (fun _ h => h) ⟨by rw [decide_eq_true (show wfA a from ⟨hW, hz, hr⟩)], rfl⟩) | (exact KV.ret1 rfl rfl _ (fun _ h => h) ⟨by rw [decide_eq_false (show ¬ wfA a from fun k => by first | exact hz k.2.1 | exact hr k.2.2)], rfl⟩)
            · -- False
              refine RV.op (OV.step gno (Step.pick_t rfl rfl) rfl ?_)
              refine RV.op (OV.step gno (Step.assign rfl) rfl ?_)
              refine RV.nil ?_
              refine KV.then_n ?_
              refine KV.env [(2, _)] ⟨rfl, trivial⟩ ?_
              refine CV.ret ?_
              refine KV.block_ret ?_
              refine KV.then_ret ?_
              -- return at r6
              refine KV.sel [] [] rfl ?_
              first | (exact KV.ret1 rfl rfl _ (fun _ h => h) ⟨by rw [decide_eq_true (show wfA a from ⟨hW, hz, hr⟩)], rfl⟩) | (exact KV.ret1 rfl rfl _ (fun _ h => h) ⟨by rw [decide_eq_false (show ¬ wfA a from fun k => by first | exact hz k.2.1 | exact hr k.2.2)], rfl⟩)
          · rw [decide_eq_false hz]
            refine RV.op (OV.step gno (Step.move rfl) rfl ?_)
            refine RV.op (OV.skip rfl rfl ?_)
            refine RV.op (OV.skip rfl rfl ?_)
            refine RV.op (OV.skip rfl rfl ?_)
            refine RV.op (OV.skip rfl rfl ?_)
            refine RV.op (OV.skip rfl rfl ?_)
            refine RV.op (OV.skip rfl rfl ?_)
            refine RV.op (OV.skip rfl rfl ?_)
            refine RV.op (OV.step gno (Step.pick_f rfl rfl) rfl ?_)
            refine RV.op (OV.step gno (Step.assign rfl) rfl ?_)
            refine RV.nil ?_
            refine KV.then_n ?_
            refine KV.env [(2, _)] ⟨rfl, trivial⟩ ?_
            refine CV.ret ?_
            refine KV.block_ret ?_
            refine KV.then_ret ?_
            -- return at r6
            refine KV.sel [] [] rfl ?_
            first | (exact KV.ret1 rfl rfl _ (fun _ h => h) ⟨by rw [decide_eq_true (show wfA a from ⟨hW, hz, hr⟩)], rfl⟩) | (exact KV.ret1 rfl rfl _ (fun _ h => h) ⟨by rw [decide_eq_false (show ¬ wfA a from fun k => by first | exact hz k.2.1 | exact hr k.2.2)], rfl⟩)
        · -- False
          refine RV.op (OV.step gno (Step.assign rfl) rfl ?_)
          refine RV.nil ?_
          refine KV.then_n ?_
          refine KV.env [(1, _), (5, _)] ⟨rfl, rfl, trivial⟩ ?_
          refine CV.cond_f rfl ?_
          refine CV.skip ?_
          refine KV.block_n ?_
          refine KV.then_n ?_
          refine KV.env [] trivial ?_
          refine CV.seq ?_
          -- region 7 iospace.go:139
          refine CV.region ?_
          refine RV.op (OV.step gno (Step.assign rfl) rfl ?_)
          refine RV.nil ?_
          refine KV.then_n ?_
          refine KV.env [(2, _)] ⟨rfl, trivial⟩ ?_
          refine CV.ret ?_
          -- return at r7
          refine KV.sel [] [] rfl ?_
          exact KV.ret1 rfl rfl _ (fun _ h => h) ⟨by rw [decide_eq_false (show ¬ wfA a from fun k => by have := k.1; unfold isW at this; omega)], rfl⟩

set_option maxRecDepth 100000 in
set_option maxHeartbeats 4000000 in
theorem useFault_fn (b : Nat) (s : BS) {w : World} (hk : s.ok) (a : Acs) (ha : wfA a) (hu : isU a.addr) : Fx Try.prog 32 [.pointer (some ⟨b, 0, none⟩), .agg #[.int .i64 a.space, .int .u64 a.addr, .int .i64 a.width, .bool a.wr, .int .u64 a.val]] w (busL b s) no (fun v L => v = .bool (decide (hitN s.fl a < s.fl.length)) ∧ L = busL b { s with fl := useL s.fl a }) := by
  refine Sv.Fx.body Try.func32 rfl T32 rfl ?_
  intro I hro hI
  refine KV.env [(0, _), (1, _)] ⟨rfl, rfl, trivial⟩ ?_
  have hw := hk.wf
  have hw3 := hw.sp
  have hfl := hk.fl
  have hrg := wfA_rng ha hu
  have hW1 : 1 ≤ a.width ∧ a.width ≤ 8 := by have := ha.1; unfold isW at this; omega
  refine CV.seq ?_
  -- region 0 iospace.go:184
  refine CV.region ?_
  refine RV.op (OV.box (t := 37) #[_, _, _, _, _] rfl rfl gno rfl (fun bx => ?_))
  refine RV.op (OV.step gno (Step.assign rfl) rfl ?_)
  refine RV.nil ?_
  refine KV.then_n ?_
  refine KV.env [(0, _), (3, _)] ⟨rfl, rfl, trivial⟩ ?_
  refine CV.seq ?_
  -- region 1 iospace.go:185
  refine CV.region ?_
  refine RV.op (OV.step gno (Step.fieldAddr rfl (F37_1 _ _)) rfl ?_)
  refine RV.op (OV.step gno (Step.load Try.underlying22 rfl rfl (fun w h => h.cell 4 rfl rfl)) rfl ?_)
  refine RV.op (OV.step gno (Step.fieldAddr rfl (F37_2 _ _)) rfl ?_)
  refine RV.op (OV.step gno (Step.load Try.underlying3 rfl rfl (fun w h => h.cell 4 rfl rfl)) rfl ?_)
  (first | refine RV.op (OV.step gno (Step.convI Try.underlying3 Try.underlying22 rfl (wU64 (by omega) (by omega))) rfl ?_) | refine RV.op (OV.step gno (Step.convI Try.underlying3 Try.underlying22 rfl rfl) rfl ?_))
  refine RV.op (OV.step gno (Step.build rfl (Bd32_0_1 _ _)) rfl ?_)
  refine RV.op (OV.alloc #[.int .u64 0, .int .u64 0] I32 rfl gno rfl (fun ar => ?_))
  refine RV.op (OV.store 5 [_, _] #[_, _] I32 rfl rfl rfl rfl rfl (Nat.le_of_ble_eq_true rfl) (by simp [Value.oneCell']) rfl gno ?_)
  refine RV.nil ?_
  refine KV.then_n ?_
  refine KV.env [(0, _), (3, _), (5, _)] ⟨rfl, rfl, rfl, trivial⟩ ?_
  refine CV.seq ?_
  refine CV.seq ?_
  -- region 2 iospace.go:186
  refine CV.region ?_
  refine RV.op (OV.step gno (Step.move rfl) rfl ?_)
  refine RV.op (OV.step gno (Step.nilCheck rfl) rfl ?_)
  refine RV.op (OV.step gno (Step.fieldAddr rfl (F71_3 _ _)) rfl ?_)
  refine RV.op (OV.step gno (Step.load Try.underlying69 rfl rfl (fun w h => h.cell 0 rfl (busC_f hw))) rfl ?_)
  refine RV.op (OV.step gno (Step.lenSl Try.underlying69 rfl) rfl ?_)
  refine RV.op (OV.step gno (Step.move rfl) rfl ?_)
  refine RV.nil ?_
  refine KV.then_n ?_
  refine KV.env [(0, _), (3, _), (5, _), (17, _), (18, _), (19, _)] ⟨rfl, rfl, rfl, rfl, rfl, rfl, trivial⟩ ?_
  refine CV.block ?_
  -- loop L3; live [0, 3, 5, 17, 18, 19]
  refine KV.sel [0, 0, 0, 0, 0, 0] [_, _, _, _, _, _] rfl ?_
  refine CV.loopI (fun (j : Nat) => j ≤ s.fl.length ∧ ∀ i, i < j → ¬ hitF (s.fl.getD i fltK.d) a) (fun (j : Nat) => s.fl.length - j) (fun (j : Nat) => [(0, .pointer (some ⟨b, 0, none⟩)), (3, .pointer (some ⟨bx, 0, none⟩)), (5, .pointer (some ⟨ar, 0, none⟩)), (17, .slice s.fA s.fl.length s.fc), (18, .int .i64 s.fl.length), (19, .int .i64 j)]) (fun (j : Nat) => Hp I w (busL b s ++ [Blk bx (.cells #[.int .i64 a.space, .int .u64 a.addr, .int .i64 a.width, .bool a.wr, .int .u64 a.val] 37 (0, 0)), Blk ar (.cells #[.int .u64 a.addr, .int .u64 a.width] 32 (0, 0))])) (0) ⟨Nat.zero_le _, fun i hi => by omega⟩ ⟨rfl, rfl, rfl, rfl, rfl, rfl, trivial⟩ (fun _ h => h) ?_
  intro j hinv
  refine CV.seq ?_
  -- region 3 iospace.go:186
  refine CV.region ?_
  refine RV.op (OV.split gno (Step.lss rfl rfl) rfl (fun hj => ?_) (fun hj => ?_))
  · -- True
    have hfr := hk.fr j (by omega)
    refine RV.nil ?_
    refine KV.then_n ?_
    refine KV.env [(0, _), (3, _), (5, _), (17, _), (18, _), (19, _), (20, _)] ⟨rfl, rfl, rfl, rfl, rfl, rfl, rfl, trivial⟩ ?_
    refine CV.seq ?_
    refine CV.cond_t rfl ?_
    refine CV.skip ?_
    refine KV.then_n ?_
    refine KV.env [(0, _), (3, _), (5, _), (17, _), (18, _), (19, _)] ⟨rfl, rfl, rfl, rfl, rfl, rfl, trivial⟩ ?_
    refine CV.seq ?_
    refine CV.block ?_
    refine CV.seq ?_
    -- region 4 iospace.go:186
    refine CV.region ?_
    refine RV.op (OV.step gno (Step.move rfl) rfl ?_)
    refine RV.op (OV.step gno (Step.idx Try.underlying69 I86 (fun w h => h.os 2 rfl) rfl rfl (rfl) _ rfl (by omega)) rfl ?_)
    refine RV.op (OV.step gno (Step.loadN _ Try.underlying86 rfl I86 rfl rfl (fun w h => (h.os 2 rfl).cells (by omega))) rfl ?_)
    refine RV.op (OV.alloc #[.int .i64 0, .int .u64 0, .int .u64 0, .int .i64 0] I86 rfl gno rfl (fun b4_3 => ?_))
    refine RV.op (OV.step gno (Step.assign rfl) rfl ?_)
    refine RV.op (OV.store 6 [_, _, _, _] #[_, _, _, _] I86 rfl rfl rfl rfl rfl (Nat.le_of_ble_eq_true rfl) (by simp [Value.oneCell']) rfl gno ?_)
    refine RV.nil ?_
    refine KV.then_n ?_
    refine KV.env [(0, _), (3, _), (5, _), (6, _), (7, _), (17, _), (18, _), (19, _)] ⟨rfl, rfl, rfl, rfl, rfl, rfl, rfl, rfl, trivial⟩ ?_
    refine CV.seq ?_
    refine CV.seq ?_
    -- region 5 iospace.go:187
    refine CV.region ?_
    refine RV.op (OV.step gno (Step.fieldAddr rfl (F86_0 _ _)) rfl ?_)
    refine RV.op (OV.step gno (Step.load Try.underlying3 rfl rfl (fun w h => h.cell 6 rfl rfl)) rfl ?_)
    refine RV.op (OV.step gno (Step.fieldAddr rfl (F37_0 _ _)) rfl ?_)
    refine RV.op (OV.step gno (Step.load Try.underlying3 rfl rfl (fun w h => h.cell 4 rfl rfl)) rfl ?_)
    refine RV.op (OV.split gno (Step.neq rfl rfl) rfl (fun hsp => ?_) (fun hsp => ?_))
    · -- True
      refine RV.op (OV.step gno (Step.move rfl) rfl ?_)
      refine RV.op (OV.skip rfl rfl ?_)
      refine RV.op (OV.skip rfl rfl ?_)
      refine RV.op (OV.skip rfl rfl ?_)
      refine RV.op (OV.skip rfl rfl ?_)
      refine RV.op (OV.skip rfl rfl ?_)
      refine RV.op (OV.step gno (Step.pick_t rfl rfl) rfl ?_)
      refine RV.nil ?_
      refine KV.then_n ?_
      refine KV.env [(0, _), (3, _), (5, _), (6, _), (7, _), (17, _), (18, _), (19, _), (35, _)] ⟨rfl, rfl, rfl, rfl, rfl, rfl, rfl, rfl, rfl, trivial⟩ ?_
      refine CV.cond_t rfl ?_
      refine CV.exit ?_
      refine KV.then_exit ?_
      refine KV.block_hit ?_
      refine KV.then_n ?_
      refine KV.env [(0, _), (3, _), (5, _), (17, _), (18, _), (19, _)] ⟨rfl, rfl, rfl, rfl, rfl, rfl, trivial⟩ ?_
      -- region 10 iospace.go:186
      refine CV.region ?_
      (first | refine RV.op (OV.step gno (Step.add rfl rfl (wI64 (by omega) (by omega))) rfl ?_) | refine RV.op (OV.step gno (Step.add rfl rfl rfl) rfl ?_))
      refine RV.op (OV.step gno (Step.move rfl) rfl ?_)
      refine RV.nil ?_
      refine KV.then_n ?_
      refine KV.env [(0, _), (3, _), (5, _), (17, _), (18, _), (19, _)] ⟨rfl, rfl, rfl, rfl, rfl, rfl, trivial⟩ ?_
      refine KV.sel [0, 0, 0, 0, 0, 0] [_, _, _, _, _, _] rfl ?_
      have hnh : ¬ hitF (s.fl.getD j fltK.d) a := fun k => by first | exact hsp k.1 | exact hov k.2
      exact KV.loopI (z := j) (j + 1) ⟨by omega, fun i hi => by by_cases e : i = j; (subst e; exact hnh); exact hinv.2 i (by omega)⟩ (by omega) ⟨rfl, rfl, rfl, rfl, rfl, rfl, trivial⟩ (fun _ h => h)
    · -- False
      refine RV.op (OV.step gno (Step.move rfl) rfl ?_)
      refine RV.op (OV.step (gyes rfl) (Step.fieldAddr rfl (F86_1 _ _)) rfl ?_)
      refine RV.op (OV.step (gyes rfl) (Step.loadN _ Try.underlying32 rfl I32 rfl rfl (fun w h => hc_sub (fun w h => h.cells 6 rfl) w h)) rfl ?_)
      refine RV.op (OV.step (gyes rfl) (Step.loadN _ Try.underlying32 rfl I32 rfl rfl (fun w h => h.cells 5 rfl)) rfl ?_)
      refine RV.op (OV.call [] (F := [_, _, _, _, _, _, _]) Try.func27 B27 N27 rfl rfl (fun w h => overlap_fn (hfr.1) hfr.2.1 hu hrg) (fun _ hb => hb.elim) (gyes rfl) rfl (fun v L' hp => ?_))
      obtain ⟨rfl, rfl⟩ := hp
      simp only [List.append_nil]
      by_cases hov : ovl (s.fl.getD j fltK.d).base (s.fl.getD j fltK.d).len a.addr a.width
      · rw [decide_eq_true hov]
        refine RV.op (OV.step (gyes rfl) (Step.not rfl) rfl ?_)
        refine RV.op (OV.step gno (Step.pick_f rfl rfl) rfl ?_)
        refine RV.nil ?_
        refine KV.then_n ?_
        refine KV.env [(0, _), (3, _), (5, _), (6, _), (7, _), (17, _), (18, _), (19, _), (35, _)] ⟨rfl, rfl, rfl, rfl, rfl, rfl, rfl, rfl, rfl, trivial⟩ ?_
        refine CV.cond_f rfl ?_
        refine CV.skip ?_
        refine KV.then_n ?_
        refine KV.env [(0, _), (6, _), (7, _)] ⟨rfl, rfl, rfl, trivial⟩ ?_
        refine CV.seq ?_
        refine CV.seq ?_
        -- region 6 iospace.go:190
        refine CV.region ?_
        refine RV.op (OV.step gno (Step.fieldAddr rfl (F86_2 _ _)) rfl ?_)
        refine RV.op (OV.step gno (Step.load Try.underlying3 rfl rfl (fun w h => h.cell 6 rfl rfl)) rfl ?_)
        refine RV.op (OV.split gno (Step.eql rfl rfl) rfl (fun hc1 => ?_) (fun hc1 => ?_))
        · -- True
          refine RV.nil ?_
          refine KV.then_n ?_
          refine KV.env [(0, _), (6, _), (38, _)] ⟨rfl, rfl, rfl, trivial⟩ ?_
          refine CV.cond_t rfl ?_
          -- region 7 iospace.go:191
          refine CV.region ?_
          refine RV.op (OV.step gno (Step.move rfl) rfl ?_)
          refine RV.op (OV.step gno (Step.move rfl) rfl ?_)
          refine RV.op (OV.step gno (Step.nilCheck rfl) rfl ?_)
          refine RV.op (OV.step gno (Step.fieldAddr rfl (F71_3 _ _)) rfl ?_)
          refine RV.op (OV.step gno (Step.load Try.underlying69 rfl rfl (fun w h => h.cell 0 rfl (busC_f hw))) rfl ?_)
          refine RV.op (OV.step gno (Step.move rfl) rfl ?_)
          refine RV.op (OV.step gno (Step.move rfl) rfl ?_)
          (first | refine RV.op (OV.step gno (Step.add rfl rfl (wI64 (by omega) (by omega))) rfl ?_) | refine RV.op (OV.step gno (Step.add rfl rfl rfl) rfl ?_))
          refine RV.op (OV.call [2] (F := [_, _, _, _, _, _]) Try.func51 B51 N51 rfl rfl (fun w h => deleteF_fn rfl (by omega) (by omega)) (fun _ hb => hb.elim) gno rfl (fun v L' hp => ?_))
          obtain ⟨rfl, rfl⟩ := hp
          rw [← delL_length (show j < s.fl.length by omega)]
          refine RV.op (OV.step gno (Step.nilCheck rfl) rfl ?_)
          refine RV.op (OV.step gno (Step.fieldAddr rfl (F71_3 _ _)) rfl ?_)
          refine RV.op (OV.store 0 [_] (busC { s with fl := delL s.fl j }).toArray I69 rfl rfl rfl rfl rfl (by show _ + 1 ≤ (busC _).toArray.size; rw [List.size_toArray, busC_len hw]; omega) (by simp [Value.oneCell']) (set_of hw (by omega) (set_f hw s.fA s.fc (delL s.fl j))) gno ?_)
          refine RV.nil ?_
          refine KV.then_n ?_
          refine KV.env [] trivial ?_
          refine CV.seq ?_
          -- region 9 iospace.go:195
          refine CV.region ?_
          refine RV.op (OV.step gno (Step.assign rfl) rfl ?_)
          refine RV.nil ?_
          refine KV.then_n ?_
          refine KV.env [(4, _)] ⟨rfl, trivial⟩ ?_
          refine CV.ret ?_
          refine KV.block_ret ?_
          refine KV.then_ret ?_
          refine KV.then_ret ?_
          refine KV.block_ret ?_
          refine KV.then_ret ?_
          -- return at r9
          refine KV.sel [0, 0, 4, 0] [_, _, _, _] rfl ?_
          have hat := hitN_at hinv.2 (show j < s.fl.length by omega) ⟨Decidable.not_not.1 hsp, hov⟩
          have hnl : hitN s.fl a < s.fl.length := by omega
          first | (exact KV.ret1 rfl rfl _ (fun _ h => h) ⟨by rw [decide_eq_true hnl], by rw [use_del hat (by omega) hc1] <;> rfl⟩) | (exact KV.ret1 rfl rfl _ (fun _ h => h) ⟨by rw [decide_eq_true hnl], by rw [use_dec hat (by omega) hc1]; simp only [busL, busC, List.length_set] <;> rfl⟩)
        · -- False
          refine RV.nil ?_
          refine KV.then_n ?_
          refine KV.env [(0, _), (6, _), (38, _)] ⟨rfl, rfl, rfl, trivial⟩ ?_
          refine CV.cond_f rfl ?_
          -- region 8 iospace.go:193
          refine CV.region ?_
          refine RV.op (OV.step gno (Step.move rfl) rfl ?_)
          refine RV.op (OV.step gno (Step.nilCheck rfl) rfl ?_)
          refine RV.op (OV.step gno (Step.fieldAddr rfl (F71_3 _ _)) rfl ?_)
          refine RV.op (OV.step gno (Step.load Try.underlying69 rfl rfl (fun w h => h.cell 0 rfl (busC_f hw))) rfl ?_)
          refine RV.op (OV.step gno (Step.move rfl) rfl ?_)
          refine RV.op (OV.step gno (Step.idx Try.underlying69 I86 (fun w h => h.os 2 rfl) rfl rfl (rfl) _ rfl (by omega)) rfl ?_)
          refine RV.op (OV.step gno (Step.fieldAddr rfl (F86_2 _ _)) rfl ?_)
          refine RV.op (OV.step gno (Step.load Try.underlying3 rfl rfl (fun w h => (h.os 2 rfl).cell (by omega) rfl)) rfl ?_)
          (first | refine RV.op (OV.step gno (Step.sub rfl rfl (wI64 (by omega) (by omega))) rfl ?_) | refine RV.op (OV.step gno (Step.sub rfl rfl rfl) rfl ?_))
          refine RV.op (OV.step gno (Step.idx Try.underlying69 I86 (fun w h => h.os 2 rfl) rfl rfl (rfl) _ rfl (by omega)) rfl ?_)
          refine RV.op (OV.step gno (Step.fieldAddr rfl (F86_2 _ _)) rfl ?_)
          refine RV.op (OV.storeE 2 (j) ({ (s.fl.getD j fltK.d) with cnt := (s.fl.getD j fltK.d).cnt - 1 }) (j := 3) [_] I3 rfl rfl rfl rfl rfl rfl (by omega) rfl (Nat.le_of_ble_eq_true rfl) gno ?_)
          refine RV.nil ?_
          refine KV.then_n ?_
          refine KV.env [] trivial ?_
          refine CV.seq ?_
          -- region 9 iospace.go:195
          refine CV.region ?_
          refine RV.op (OV.step gno (Step.assign rfl) rfl ?_)
          refine RV.nil ?_
          refine KV.then_n ?_
          refine KV.env [(4, _)] ⟨rfl, trivial⟩ ?_
          refine CV.ret ?_
          refine KV.block_ret ?_
          refine KV.then_ret ?_
          refine KV.then_ret ?_
          refine KV.block_ret ?_
          refine KV.then_ret ?_
          -- return at r9
          refine KV.sel [0, 0, 0, 0] [_, _, _, _] rfl ?_
          have hat := hitN_at hinv.2 (show j < s.fl.length by omega) ⟨Decidable.not_not.1 hsp, hov⟩
          have hnl : hitN s.fl a < s.fl.length := by omega
          first | (exact KV.ret1 rfl rfl _ (fun _ h => h) ⟨by rw [decide_eq_true hnl], by rw [use_del hat (by omega) hc1] <;> rfl⟩) | (exact KV.ret1 rfl rfl _ (fun _ h => h) ⟨by rw [decide_eq_true hnl], by rw [use_dec hat (by omega) hc1]; simp only [busL, busC, List.length_set] <;> rfl⟩)
      · rw [decide_eq_false hov]
        refine RV.op (OV.step (gyes rfl) (Step.not rfl) rfl ?_)
        refine RV.op (OV.step gno (Step.pick_f rfl rfl) rfl ?_)
        refine RV.nil ?_
        refine KV.then_n ?_
        refine KV.env [(0, _), (3, _), (5, _), (6, _), (7, _), (17, _), (18, _), (19, _), (35, _)] ⟨rfl, rfl, rfl, rfl, rfl, rfl, rfl, rfl, rfl, trivial⟩ ?_
        refine CV.cond_t rfl ?_
        refine CV.exit ?_
        refine KV.then_exit ?_
        refine KV.block_hit ?_
        refine KV.then_n ?_
        refine KV.env [(0, _), (3, _), (5, _), (17, _), (18, _), (19, _)] ⟨rfl, rfl, rfl, rfl, rfl, rfl, trivial⟩ ?_
        -- region 10 iospace.go:186
        refine CV.region ?_
        (first | refine RV.op (OV.step gno (Step.add rfl rfl (wI64 (by omega) (by omega))) rfl ?_) | refine RV.op (OV.step gno (Step.add rfl rfl rfl) rfl ?_))
        refine RV.op (OV.step gno (Step.move rfl) rfl ?_)
        refine RV.nil ?_
        refine KV.then_n ?_
        refine KV.env [(0, _), (3, _), (5, _), (17, _), (18, _), (19, _)] ⟨rfl, rfl, rfl, rfl, rfl, rfl, trivial⟩ ?_
        refine KV.sel [0, 0, 0, 0, 0, 0] [_, _, _, _, _, _] rfl ?_
        have hnh : ¬ hitF (s.fl.getD j fltK.d) a := fun k => by first | exact hsp k.1 | exact hov k.2
        exact KV.loopI (z := j) (j + 1) ⟨by omega, fun i hi => by by_cases e : i = j; (subst e; exact hnh); exact hinv.2 i (by omega)⟩ (by omega) ⟨rfl, rfl, rfl, rfl, rfl, rfl, trivial⟩ (fun _ h => h)
  · -- False
    refine RV.nil ?_
    refine KV.then_n ?_
    refine KV.env [(0, _), (3, _), (5, _), (17, _), (18, _), (19, _), (20, _)] ⟨rfl, rfl, rfl, rfl, rfl, rfl, rfl, trivial⟩ ?_
    refine CV.seq ?_
    refine CV.cond_f rfl ?_
    refine CV.exit ?_
    refine KV.then_exit ?_
    refine KV.then_exit ?_
    refine KV.block_hit ?_
    refine KV.then_n ?_
    refine KV.env [] trivial ?_
    refine CV.seq ?_
    -- region 11 iospace.go:197
    refine CV.region ?_
    refine RV.op (OV.step gno (Step.assign rfl) rfl ?_)
    refine RV.nil ?_
    refine KV.then_n ?_
    refine KV.env [(4, _)] ⟨rfl, trivial⟩ ?_
    refine CV.ret ?_
    -- return at r11
    refine KV.sel [0, 0, 0, 0] [_, _, _, _] rfl ?_
    have hno := hitN_none (l := s.fl) (a := a) (fun i hi => hinv.2 i (by omega))
    exact KV.ret1 rfl rfl _ (fun _ h => h) ⟨by rw [decide_eq_false (by omega)], by rw [use_no hno] <;> rfl⟩
end Go.Proofs.Ythdpojggdodpfaa
