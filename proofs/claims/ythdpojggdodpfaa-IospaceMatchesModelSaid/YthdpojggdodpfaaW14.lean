/-
  Walks, part 14.
-/
import Derived.Test.YthdpojggdodpfaaTabs
import Derived.Test.YthdpojggdodpfaaW8
import Derived.Test.YthdpojggdodpfaaRmA
set_option linter.unusedSimpArgs false
set_option linter.unusedVariables false
namespace Go.Proofs.Ythdpojggdodpfaa
open Go.Sv Go.Ios
set_option maxRecDepth 100000 in
set_option maxHeartbeats 1000000 in
theorem ordinary_fn (x : Int) : FxP Try.prog 52 [.int .i64 x] (.bool (decide (0 ≤ x ∧ x < 3))) := by
  refine Sv.FxP.body Try.func52 rfl T52 rfl ?_
  intro wp
  refine KV.env [(0, _)] ⟨rfl, trivial⟩ ?_
  refine CV.seq ?_
  -- region 0 iospace.go:41
  refine CV.region ?_
  refine RV.op (OV.step gno (Step.assign rfl) rfl ?_)
  refine RV.nil ?_
  refine KV.then_n ?_
  refine KV.env [(0, _)] ⟨rfl, trivial⟩ ?_
  refine CV.seq ?_
  -- region 1 iospace.go:41
  refine CV.region ?_
  refine RV.op (OV.step gno (Step.move rfl) rfl ?_)
  refine RV.op (OV.split gno (Step.geq rfl rfl) rfl (fun cc1 => ?_) (fun cc1 => ?_))
  · -- True
    refine RV.op (OV.step gno (Step.move rfl) rfl ?_)
    refine RV.op (OV.step (gyes rfl) (Step.move rfl) rfl ?_)
    refine RV.op (OV.split (gyes rfl) (Step.leq rfl rfl) rfl (fun cc2 => ?_) (fun cc2 => ?_))
    · -- True
      refine RV.op (OV.step gno (Step.pick_t rfl rfl) rfl ?_)
      refine RV.op (OV.step gno (Step.assign rfl) rfl ?_)
      refine RV.nil ?_
      refine KV.then_n ?_
      refine KV.env [(2, _)] ⟨rfl, trivial⟩ ?_
      refine CV.ret ?_
      -- return at r1
      exact KV.retP1 rfl rfl (by first | rw [decide_eq_true (show 0 ≤ x ∧ x < 3 by omega)] | rw [decide_eq_false (show ¬ (0 ≤ x ∧ x < 3) by omega)])
    · -- False
      refine RV.op (OV.step gno (Step.pick_t rfl rfl) rfl ?_)
      refine RV.op (OV.step gno (Step.assign rfl) rfl ?_)
      refine RV.nil ?_
      refine KV.then_n ?_
      refine KV.env [(2, _)] ⟨rfl, trivial⟩ ?_
      refine CV.ret ?_
      -- return at r1
      exact KV.retP1 rfl rfl (by first | rw [decide_eq_true (show 0 ≤ x ∧ x < 3 by omega)] | rw [decide_eq_false (show ¬ (0 ≤ x ∧ x < 3) by omega)])
  · -- False
    refine RV.op (OV.step gno (Step.move rfl) rfl ?_)
    refine RV.op (OV.skip rfl rfl ?_)
    refine RV.op (OV.skip rfl rfl ?_)
    refine RV.op (OV.step gno (Step.pick_f rfl rfl) rfl ?_)
    refine RV.op (OV.step gno (Step.assign rfl) rfl ?_)
    refine RV.nil ?_
    refine KV.then_n ?_
    refine KV.env [(2, _)] ⟨rfl, trivial⟩ ?_
    refine CV.ret ?_
    -- return at r1
    exact KV.retP1 rfl rfl (by first | rw [decide_eq_true (show 0 ≤ x ∧ x < 3 by omega)] | rw [decide_eq_false (show ¬ (0 ≤ x ∧ x < 3) by omega)])

set_option maxRecDepth 100000 in
set_option maxHeartbeats 1000000 in
theorem rvalid_fn (b l : Int) (hb : isU b) {w : World} : Fx Try.prog 53 [.agg #[.int .u64 b, .int .u64 l]] w [] no (fun v L => v = .bool (decide (okR b l)) ∧ L = []) := by
  refine Sv.Fx.body Try.func53 rfl T53 rfl ?_
  intro I hro hI
  refine KV.env [(0, _)] ⟨rfl, trivial⟩ ?_
  unfold isU at hb
  refine CV.seq ?_
  -- region 0 iospace.go:30
  refine CV.region ?_
  refine RV.op (OV.box (t := 32) #[_, _] rfl rfl gno rfl (fun b0_0 => ?_))
  refine RV.op (OV.step gno (Step.assign rfl) rfl ?_)
  refine RV.nil ?_
  refine KV.then_n ?_
  refine KV.env [(1, _)] ⟨rfl, trivial⟩ ?_
  refine CV.seq ?_
  -- region 1 iospace.go:31
  refine CV.region ?_
  refine RV.op (OV.step gno (Step.fieldAddr rfl (F32_1 _ _)) rfl ?_)
  refine RV.op (OV.step gno (Step.load Try.underlying22 rfl rfl (fun w h => h.cell 0 rfl rfl)) rfl ?_)
  refine RV.op (OV.split gno (Step.geq rfl rfl) rfl (fun cc1 => ?_) (fun cc1 => ?_))
  · -- True
    refine RV.op (OV.step gno (Step.move rfl) rfl ?_)
    refine RV.op (OV.step (gyes rfl) (Step.fieldAddr rfl (F32_1 _ _)) rfl ?_)
    refine RV.op (OV.step (gyes rfl) (Step.load Try.underlying22 rfl rfl (fun w h => h.cell 0 rfl rfl)) rfl ?_)
    refine RV.op (OV.split (gyes rfl) (Step.leq rfl rfl) rfl (fun cc2 => ?_) (fun cc2 => ?_))
    · -- True
      refine RV.op (OV.step gno (Step.pick_t rfl rfl) rfl ?_)
      refine RV.op (OV.step gno (Step.move rfl) rfl ?_)
      refine RV.op (OV.step (gyes rfl) (Step.fieldAddr rfl (F32_0 _ _)) rfl ?_)
      refine RV.op (OV.step (gyes rfl) (Step.load Try.underlying22 rfl rfl (fun w h => h.cell 0 rfl rfl)) rfl ?_)
      refine RV.op (OV.step (gyes rfl) (Step.fieldAddr rfl (F32_1 _ _)) rfl ?_)
      refine RV.op (OV.step (gyes rfl) (Step.load Try.underlying22 rfl rfl (fun w h => h.cell 0 rfl rfl)) rfl ?_)
      (first | refine RV.op (OV.step (gyes rfl) (Step.sub rfl rfl (wU64 (by omega) (by omega))) rfl ?_) | refine RV.op (OV.step (gyes rfl) (Step.sub rfl rfl rfl) rfl ?_))
      (first | refine RV.op (OV.step (gyes rfl) (Step.sub rfl rfl (wU64 (by omega) (by omega))) rfl ?_) | refine RV.op (OV.step (gyes rfl) (Step.sub rfl rfl rfl) rfl ?_))
      refine RV.op (OV.split (gyes rfl) (Step.leq rfl rfl) rfl (fun cc3 => ?_) (fun cc3 => ?_))
      · -- True
        refine RV.op (OV.step gno (Step.pick_t rfl rfl) rfl ?_)
        refine RV.op (OV.step gno (Step.assign rfl) rfl ?_)
        refine RV.nil ?_
        refine KV.then_n ?_
        refine KV.env [(2, _)] ⟨rfl, trivial⟩ ?_
        refine CV.ret ?_
        -- return at r1
        refine KV.sel [] [] rfl ?_
        first | (refine KV.ret1 rfl rfl _ (fun _ h => h) ⟨?_, rfl⟩; rw [decide_eq_true (show okR b l by unfold okR; omega)]) | (refine KV.ret1 rfl rfl _ (fun _ h => h) ⟨?_, rfl⟩; rw [decide_eq_false (show ¬ (okR b l) by unfold okR; omega)])
      · -- False
        refine RV.op (OV.step gno (Step.pick_t rfl rfl) rfl ?_)
        refine RV.op (OV.step gno (Step.assign rfl) rfl ?_)
        refine RV.nil ?_
        refine KV.then_n ?_
        refine KV.env [(2, _)] ⟨rfl, trivial⟩ ?_
        refine CV.ret ?_
        -- return at r1
        refine KV.sel [] [] rfl ?_
        first | (refine KV.ret1 rfl rfl _ (fun _ h => h) ⟨?_, rfl⟩; rw [decide_eq_true (show okR b l by unfold okR; omega)]) | (refine KV.ret1 rfl rfl _ (fun _ h => h) ⟨?_, rfl⟩; rw [decide_eq_false (show ¬ (okR b l) by unfold okR; omega)])
    · -- False
      refine RV.op (OV.step gno (Step.pick_t rfl rfl) rfl ?_)
      refine RV.op (OV.step gno (Step.move rfl) rfl ?_)
      refine RV.op (OV.skip rfl rfl ?_)
      refine RV.op (OV.skip rfl rfl ?_)
      refine RV.op (OV.skip rfl rfl ?_)
      refine RV.op (OV.skip rfl rfl ?_)
      refine RV.op (OV.skip rfl rfl ?_)
      refine RV.op (OV.skip rfl rfl ?_)
      refine RV.op (OV.skip rfl rfl ?_)
      refine RV.op (OV.step gno (Step.pick_f rfl rfl) rfl ?_)
      refine RV.op (OV.step gno (Step.assign rfl) rfl ?_)
      refine RV.nil ?_
      refine KV.then_n ?_
      refine KV.env [(2, _)] ⟨rfl, trivial⟩ ?_
      refine CV.ret ?_
      -- return at r1
      refine KV.sel [] [] rfl ?_
      first | (refine KV.ret1 rfl rfl _ (fun _ h => h) ⟨?_, rfl⟩; rw [decide_eq_true (show okR b l by unfold okR; omega)]) | (refine KV.ret1 rfl rfl _ (fun _ h => h) ⟨?_, rfl⟩; rw [decide_eq_false (show ¬ (okR b l) by unfold okR; omega)])
  · -- False
    refine RV.op (OV.step gno (Step.move rfl) rfl ?_)
    refine RV.op (OV.skip rfl rfl ?_)
    refine RV.op (OV.skip rfl rfl ?_)
    refine RV.op (OV.skip rfl rfl ?_)
    refine RV.op (OV.step gno (Step.pick_f rfl rfl) rfl ?_)
    refine RV.op (OV.step gno (Step.move rfl) rfl ?_)
    refine RV.op (OV.skip rfl rfl ?_)
    refine RV.op (OV.skip rfl rfl ?_)
    refine RV.op (OV.skip rfl rfl ?_)
    refine RV.op (OV.skip rfl rfl ?_)
    refine RV.op (OV.skip rfl rfl ?_)
    refine RV.op (OV.skip rfl rfl ?_)
    refine RV.op (OV.skip rfl rfl ?_)
    refine RV.op (OV.step gno (Step.pick_f rfl rfl) rfl ?_)
    refine RV.op (OV.step gno (Step.assign rfl) rfl ?_)
    refine RV.nil ?_
    refine KV.then_n ?_
    refine KV.env [(2, _)] ⟨rfl, trivial⟩ ?_
    refine CV.ret ?_
    -- return at r1
    refine KV.sel [] [] rfl ?_
    first | (refine KV.ret1 rfl rfl _ (fun _ h => h) ⟨?_, rfl⟩; rw [decide_eq_true (show okR b l by unfold okR; omega)]) | (refine KV.ret1 rfl rfl _ (fun _ h => h) ⟨?_, rfl⟩; rw [decide_eq_false (show ¬ (okR b l) by unfold okR; omega)])

set_option maxRecDepth 100000 in
set_option maxHeartbeats 1000000 in
theorem has_fn {b l x : Int} (hb : isU b) (hx : isU x) {w : World} : Fx Try.prog 60 [.agg #[.int .u64 b, .int .u64 l], .int .u64 x] w [] no (fun v L => v = .bool (decide (hasR b l x)) ∧ L = []) := by
  refine Sv.Fx.body Try.func60 rfl T60 rfl ?_
  intro I hro hI
  refine KV.env [(0, _), (1, _)] ⟨rfl, rfl, trivial⟩ ?_
  unfold isU at hb hx
  refine CV.seq ?_
  -- region 0 iospace.go:35
  refine CV.region ?_
  refine RV.op (OV.box (t := 32) #[_, _] rfl rfl gno rfl (fun b0_0 => ?_))
  refine RV.op (OV.step gno (Step.assign rfl) rfl ?_)
  refine RV.nil ?_
  refine KV.then_n ?_
  refine KV.env [(1, _), (2, _)] ⟨rfl, rfl, trivial⟩ ?_
  refine CV.seq ?_
  -- region 1 iospace.go:35
  refine CV.region ?_
  refine RV.op (OV.step gno (Step.move rfl) rfl ?_)
  refine RV.op (OV.step gno (Step.fieldAddr rfl (F32_0 _ _)) rfl ?_)
  refine RV.op (OV.step gno (Step.load Try.underlying22 rfl rfl (fun w h => h.cell 0 rfl rfl)) rfl ?_)
  refine RV.op (OV.split gno (Step.geq rfl rfl) rfl (fun cc1 => ?_) (fun cc1 => ?_))
  · -- True
    refine RV.op (OV.step gno (Step.move rfl) rfl ?_)
    refine RV.op (OV.step (gyes rfl) (Step.move rfl) rfl ?_)
    refine RV.op (OV.step (gyes rfl) (Step.fieldAddr rfl (F32_0 _ _)) rfl ?_)
    refine RV.op (OV.step (gyes rfl) (Step.load Try.underlying22 rfl rfl (fun w h => h.cell 0 rfl rfl)) rfl ?_)
    (first | refine RV.op (OV.step (gyes rfl) (Step.sub rfl rfl (wU64 (by omega) (by omega))) rfl ?_) | refine RV.op (OV.step (gyes rfl) (Step.sub rfl rfl rfl) rfl ?_))
    refine RV.op (OV.step (gyes rfl) (Step.fieldAddr rfl (F32_1 _ _)) rfl ?_)
    refine RV.op (OV.step (gyes rfl) (Step.load Try.underlying22 rfl rfl (fun w h => h.cell 0 rfl rfl)) rfl ?_)
    refine RV.op (OV.split (gyes rfl) (Step.lss rfl rfl) rfl (fun cc2 => ?_) (fun cc2 => ?_))
    · -- True
      refine RV.op (OV.step gno (Step.pick_t rfl rfl) rfl ?_)
      refine RV.op (OV.step gno (Step.assign rfl) rfl ?_)
      refine RV.nil ?_
      refine KV.then_n ?_
      refine KV.env [(4, _)] ⟨rfl, trivial⟩ ?_
      refine CV.ret ?_
      -- return at r1
      refine KV.sel [] [] rfl ?_
      first | (refine KV.ret1 rfl rfl _ (fun _ h => h) ⟨?_, rfl⟩; rw [decide_eq_true (show hasR b l x by unfold hasR; omega)]) | (refine KV.ret1 rfl rfl _ (fun _ h => h) ⟨?_, rfl⟩; rw [decide_eq_false (show ¬ (hasR b l x) by unfold hasR; omega)])
    · -- False
      refine RV.op (OV.step gno (Step.pick_t rfl rfl) rfl ?_)
      refine RV.op (OV.step gno (Step.assign rfl) rfl ?_)
      refine RV.nil ?_
      refine KV.then_n ?_
      refine KV.env [(4, _)] ⟨rfl, trivial⟩ ?_
      refine CV.ret ?_
      -- return at r1
      refine KV.sel [] [] rfl ?_
      first | (refine KV.ret1 rfl rfl _ (fun _ h => h) ⟨?_, rfl⟩; rw [decide_eq_true (show hasR b l x by unfold hasR; omega)]) | (refine KV.ret1 rfl rfl _ (fun _ h => h) ⟨?_, rfl⟩; rw [decide_eq_false (show ¬ (hasR b l x) by unfold hasR; omega)])
  · -- False
    refine RV.op (OV.step gno (Step.move rfl) rfl ?_)
    refine RV.op (OV.skip rfl rfl ?_)
    refine RV.op (OV.skip rfl rfl ?_)
    refine RV.op (OV.skip rfl rfl ?_)
    refine RV.op (OV.skip rfl rfl ?_)
    refine RV.op (OV.skip rfl rfl ?_)
    refine RV.op (OV.skip rfl rfl ?_)
    refine RV.op (OV.skip rfl rfl ?_)
    refine RV.op (OV.step gno (Step.pick_f rfl rfl) rfl ?_)
    refine RV.op (OV.step gno (Step.assign rfl) rfl ?_)
    refine RV.nil ?_
    refine KV.then_n ?_
    refine KV.env [(4, _)] ⟨rfl, trivial⟩ ?_
    refine CV.ret ?_
    -- return at r1
    refine KV.sel [] [] rfl ?_
    first | (refine KV.ret1 rfl rfl _ (fun _ h => h) ⟨?_, rfl⟩; rw [decide_eq_true (show hasR b l x by unfold hasR; omega)]) | (refine KV.ret1 rfl rfl _ (fun _ h => h) ⟨?_, rfl⟩; rw [decide_eq_false (show ¬ (hasR b l x) by unfold hasR; omega)])

set_option maxRecDepth 100000 in
set_option maxHeartbeats 1000000 in
theorem roverlap_fn {b l b2 l2 : Int} (hb : isU b) (hb2 : isU b2) {w : World} : Fx Try.prog 54 [.agg #[.int .u64 b, .int .u64 l], .agg #[.int .u64 b2, .int .u64 l2]] w [] no (fun v L => v = .bool (decide (ovR b l b2 l2)) ∧ L = []) := by
  refine Sv.Fx.body Try.func54 rfl T54 rfl ?_
  intro I hro hI
  refine KV.env [(0, _), (1, _)] ⟨rfl, rfl, trivial⟩ ?_
  refine CV.seq ?_
  -- region 0 iospace.go:38
  refine CV.region ?_
  refine RV.op (OV.box (t := 32) #[_, _] rfl rfl gno rfl (fun b0_0 => ?_))
  refine RV.op (OV.box (t := 32) #[_, _] rfl rfl gno rfl (fun b0_1 => ?_))
  refine RV.op (OV.step gno (Step.assign rfl) rfl ?_)
  refine RV.nil ?_
  refine KV.then_n ?_
  refine KV.env [(2, _), (3, _)] ⟨rfl, rfl, trivial⟩ ?_
  refine CV.seq ?_
  -- region 1 iospace.go:38
  refine CV.region ?_
  refine RV.op (OV.step gno (Step.loadN _ Try.underlying32 rfl I32 rfl rfl (fun w h => h.cells 0 rfl)) rfl ?_)
  refine RV.op (OV.step gno (Step.fieldAddr rfl (F32_0 _ _)) rfl ?_)
  refine RV.op (OV.step gno (Step.load Try.underlying22 rfl rfl (fun w h => h.cell 1 rfl rfl)) rfl ?_)
  refine RV.op (OV.call [] (F := [_, _]) Try.func60 B60 N60 rfl rfl (fun w h => has_fn (b := b) (l := l) (x := b2) hb hb2) (fun _ hb => hb.elim) gno rfl (fun v L' hp => ?_))
  obtain ⟨rfl, rfl⟩ := hp
  simp only [List.append_nil]
  by_cases h1 : hasR b l b2
  · rw [decide_eq_true h1]
    refine RV.op (OV.step gno (Step.move rfl) rfl ?_)
    refine RV.op (OV.skip rfl rfl ?_)
    refine RV.op (OV.skip rfl rfl ?_)
    refine RV.op (OV.skip rfl rfl ?_)
    refine RV.op (OV.skip rfl rfl ?_)
    refine RV.op (OV.step gno (Step.pick_t rfl rfl) rfl ?_)
    refine RV.op (OV.step gno (Step.assign rfl) rfl ?_)
    refine RV.nil ?_
    refine KV.then_n ?_
    refine KV.env [(4, _)] ⟨rfl, trivial⟩ ?_
    refine CV.ret ?_
    -- return at r1
    refine KV.sel [] [] rfl ?_
    first | (refine KV.ret1 rfl rfl _ (fun _ h => h) ⟨?_, rfl⟩; rw [decide_eq_true (show ovR b l b2 l2 by first | exact .inl h1 | exact .inr h2)]) | (refine KV.ret1 rfl rfl _ (fun _ h => h) ⟨?_, rfl⟩; rw [decide_eq_false (show ¬ ovR b l b2 l2 from fun k => k.elim h1 h2)])
  · rw [decide_eq_false h1]
    refine RV.op (OV.step gno (Step.move rfl) rfl ?_)
    refine RV.op (OV.step (gyes rfl) (Step.loadN _ Try.underlying32 rfl I32 rfl rfl (fun w h => h.cells 1 rfl)) rfl ?_)
    refine RV.op (OV.step (gyes rfl) (Step.fieldAddr rfl (F32_0 _ _)) rfl ?_)
    refine RV.op (OV.step (gyes rfl) (Step.load Try.underlying22 rfl rfl (fun w h => h.cell 0 rfl rfl)) rfl ?_)
    refine RV.op (OV.call [] (F := [_, _]) Try.func60 B60 N60 rfl rfl (fun w h => has_fn (b := b2) (l := l2) (x := b) hb2 hb) (fun _ hb => hb.elim) (gyes rfl) rfl (fun v L' hp => ?_))
    obtain ⟨rfl, rfl⟩ := hp
    simp only [List.append_nil]
    by_cases h2 : hasR b2 l2 b
    · rw [decide_eq_true h2]
      refine RV.op (OV.step gno (Step.pick_f rfl rfl) rfl ?_)
      refine RV.op (OV.step gno (Step.assign rfl) rfl ?_)
      refine RV.nil ?_
      refine KV.then_n ?_
      refine KV.env [(4, _)] ⟨rfl, trivial⟩ ?_
      refine CV.ret ?_
      -- return at r1
      refine KV.sel [] [] rfl ?_
      first | (refine KV.ret1 rfl rfl _ (fun _ h => h) ⟨?_, rfl⟩; rw [decide_eq_true (show ovR b l b2 l2 by first | exact .inl h1 | exact .inr h2)]) | (refine KV.ret1 rfl rfl _ (fun _ h => h) ⟨?_, rfl⟩; rw [decide_eq_false (show ¬ ovR b l b2 l2 from fun k => k.elim h1 h2)])
    · rw [decide_eq_false h2]
      refine RV.op (OV.step gno (Step.pick_f rfl rfl) rfl ?_)
      refine RV.op (OV.step gno (Step.assign rfl) rfl ?_)
      refine RV.nil ?_
      refine KV.then_n ?_
      refine KV.env [(4, _)] ⟨rfl, trivial⟩ ?_
      refine CV.ret ?_
      -- return at r1
      refine KV.sel [] [] rfl ?_
      first | (refine KV.ret1 rfl rfl _ (fun _ h => h) ⟨?_, rfl⟩; rw [decide_eq_true (show ovR b l b2 l2 by first | exact .inl h1 | exact .inr h2)]) | (refine KV.ret1 rfl rfl _ (fun _ h => h) ⟨?_, rfl⟩; rw [decide_eq_false (show ¬ ovR b l b2 l2 from fun k => k.elim h1 h2)])

set_option maxRecDepth 100000 in
set_option maxHeartbeats 4000000 in
theorem rfind_fn (b : Nat) (s : RB) {w : World} (hk : s.ok) (z x : Int) (hx : isU x) : Fx Try.prog 56 [.pointer (some ⟨b, 0, none⟩), .int .i64 z, .int .u64 x] w (rbL b s) no (fun v L => v = .int .i64 (fR s.ms z x) ∧ L = rbL b s) := by
  refine Sv.Fx.body Try.func56 rfl T56 rfl ?_
  intro I hro hI
  refine KV.env [(0, _), (1, _), (2, _)] ⟨rfl, rfl, rfl, trivial⟩ ?_
  have hw := hk.en
  have hmx := hk.max
  have hfx := hk.fl
  refine CV.seq ?_
  -- region 0 iospace.go:72
  refine CV.region ?_
  refine RV.op (OV.step gno (Step.assign rfl) rfl ?_)
  refine RV.nil ?_
  refine KV.then_n ?_
  refine KV.env [(0, _), (1, _), (2, _)] ⟨rfl, rfl, rfl, trivial⟩ ?_
  refine CV.seq ?_
  refine CV.seq ?_
  -- region 1 iospace.go:73
  refine CV.region ?_
  refine RV.op (OV.step gno (Step.assign rfl) rfl ?_)
  refine RV.nil ?_
  refine KV.then_n ?_
  refine KV.env [(0, _), (1, _), (2, _), (7, _)] ⟨rfl, rfl, rfl, rfl, trivial⟩ ?_
  refine CV.block ?_
  -- loop L2; live [0, 1, 2, 7]
  refine KV.sel [0, 0, 0, 0, 0] [_, _, _, _, _] rfl ?_
  refine CV.loopI (fun (j : Nat) => j ≤ s.ms.length ∧ ∀ k, k < j → ¬ hitR s.ms z x k) (fun (j : Nat) => s.ms.length - j) (fun (j : Nat) => [(0, .pointer (some ⟨b, 0, none⟩)), (1, .int .i64 z), (2, .int .u64 x), (7, .int .i64 j)]) (fun (j : Nat) => Hp I w (rbL b s)) (0) ⟨Nat.zero_le _, fun k hk => by omega⟩ ⟨rfl, rfl, rfl, rfl, trivial⟩ (fun _ h => h) ?_
  intro j hinv
  refine CV.seq ?_
  refine CV.seq ?_
  -- region 2 iospace.go:73
  refine CV.region ?_
  refine RV.op (OV.step gno (Step.move rfl) rfl ?_)
  refine RV.op (OV.step gno (Step.move rfl) rfl ?_)
  refine RV.op (OV.step gno (Step.nilCheck rfl) rfl ?_)
  refine RV.op (OV.step gno (Step.fieldAddr rfl (F56_0 _ _)) rfl ?_)
  refine RV.op (OV.step gno (Step.load Try.underlying51 rfl rfl (fun w h => h.cell 0 rfl (rbC_m hw))) rfl ?_)
  refine RV.op (OV.step gno (Step.lenSl Try.underlying51 rfl) rfl ?_)
  refine RV.op (OV.split gno (Step.lss rfl rfl) rfl (fun hj => ?_) (fun hj => ?_))
  · -- True
    refine RV.nil ?_
    refine KV.then_n ?_
    refine KV.env [(0, _), (1, _), (2, _), (7, _), (14, _)] ⟨rfl, rfl, rfl, rfl, rfl, trivial⟩ ?_
    refine CV.cond_t rfl ?_
    refine CV.skip ?_
    refine KV.then_n ?_
    refine KV.env [(0, _), (1, _), (2, _), (7, _)] ⟨rfl, rfl, rfl, rfl, trivial⟩ ?_
    refine CV.seq ?_
    refine CV.block ?_
    refine CV.seq ?_
    -- region 4 iospace.go:74
    refine CV.region ?_
    refine RV.op (OV.step gno (Step.move rfl) rfl ?_)
    refine RV.op (OV.step gno (Step.nilCheck rfl) rfl ?_)
    refine RV.op (OV.step gno (Step.fieldAddr rfl (F56_0 _ _)) rfl ?_)
    refine RV.op (OV.step gno (Step.load Try.underlying51 rfl rfl (fun w h => h.cell 0 rfl (rbC_m hw))) rfl ?_)
    refine RV.op (OV.step gno (Step.move rfl) rfl ?_)
    refine RV.op (OV.step gno (Step.idx Try.underlying51 I94 (fun w h => h.os 1 rfl) rfl rfl (rfl) _ rfl (by omega)) rfl ?_)
    refine RV.op (OV.step gno (Step.fieldAddr rfl (F94_0 _ _)) rfl ?_)
    refine RV.op (OV.step gno (Step.load Try.underlying3 rfl rfl (fun w h => (h.os 1 rfl).cell0 (by omega) rfl)) rfl ?_)
    refine RV.op (OV.step gno (Step.move rfl) rfl ?_)
    refine RV.op (OV.split gno (Step.eql rfl rfl) rfl (fun hz => ?_) (fun hz => ?_))
    · -- True
      refine RV.op (OV.step gno (Step.move rfl) rfl ?_)
      refine RV.op (OV.step (gyes rfl) (Step.move rfl) rfl ?_)
      refine RV.op (OV.step (gyes rfl) (Step.nilCheck rfl) rfl ?_)
      refine RV.op (OV.step (gyes rfl) (Step.fieldAddr rfl (F56_0 _ _)) rfl ?_)
      refine RV.op (OV.step (gyes rfl) (Step.load Try.underlying51 rfl rfl (fun w h => h.cell 0 rfl (rbC_m hw))) rfl ?_)
      refine RV.op (OV.step (gyes rfl) (Step.move rfl) rfl ?_)
      refine RV.op (OV.step (gyes rfl) (Step.idx Try.underlying51 I94 (fun w h => h.os 1 rfl) rfl rfl (rfl) _ rfl (by omega)) rfl ?_)
      refine RV.op (OV.step (gyes rfl) (Step.fieldAddr rfl (F94_1 _ _)) rfl ?_)
      refine RV.op (OV.step (gyes rfl) (Step.loadN _ Try.underlying32 rfl I32 rfl rfl (fun w h => rngR (h.os 1 rfl) (i := j) (by omega))) rfl ?_)
      refine RV.op (OV.step (gyes rfl) (Step.move rfl) rfl ?_)
      refine RV.op (OV.call [] (F := [_, _, _, _, _]) Try.func60 B60 N60 rfl rfl (fun w h => has_fn (b := (rh s.ms j).base) (l := (rh s.ms j).len) (x := x) (hk.each j (by omega)).b hx) (fun _ hb => hb.elim) (gyes rfl) rfl (fun v L' hp => ?_))
      obtain ⟨rfl, rfl⟩ := hp
      simp only [List.append_nil]
      by_cases hh : hasR (rh s.ms j).base (rh s.ms j).len x
      · rw [decide_eq_true hh]
        refine RV.op (OV.step gno (Step.pick_t rfl rfl) rfl ?_)
        refine RV.nil ?_
        refine KV.then_n ?_
        refine KV.env [(0, _), (1, _), (2, _), (7, _), (38, _)] ⟨rfl, rfl, rfl, rfl, rfl, trivial⟩ ?_
        refine CV.cond_t rfl ?_
        refine CV.seq ?_
        -- region 5 iospace.go:75
        refine CV.region ?_
        refine RV.op (OV.step gno (Step.move rfl) rfl ?_)
        refine RV.op (OV.step gno (Step.assign rfl) rfl ?_)
        refine RV.nil ?_
        refine KV.then_n ?_
        refine KV.env [(6, _)] ⟨rfl, trivial⟩ ?_
        refine CV.ret ?_
        refine KV.block_ret ?_
        refine KV.then_ret ?_
        refine KV.then_ret ?_
        refine KV.block_ret ?_
        refine KV.then_ret ?_
        -- return at r5
        refine KV.sel [0, 0, 0, 0, 0] [_, _, _, _, _] rfl ?_
        exact KV.ret1 rfl rfl _ (fun _ h => h) ⟨by rw [fR_yes (j := j) (by omega) ⟨hz, hh⟩ hinv.2], rfl⟩
      · rw [decide_eq_false hh]
        refine RV.op (OV.step gno (Step.pick_t rfl rfl) rfl ?_)
        refine RV.nil ?_
        refine KV.then_n ?_
        refine KV.env [(0, _), (1, _), (2, _), (7, _), (38, _)] ⟨rfl, rfl, rfl, rfl, rfl, trivial⟩ ?_
        refine CV.cond_f rfl ?_
        refine CV.skip ?_
        refine KV.block_n ?_
        refine KV.then_n ?_
        refine KV.env [(0, _), (1, _), (2, _), (7, _)] ⟨rfl, rfl, rfl, rfl, trivial⟩ ?_
        -- region 3 iospace.go:73
        refine CV.region ?_
        refine RV.op (OV.step gno (Step.move rfl) rfl ?_)
        (first | refine RV.op (OV.step gno (Step.add rfl rfl (wI64 (by omega) (by omega))) rfl ?_) | refine RV.op (OV.step gno (Step.add rfl rfl rfl) rfl ?_))
        refine RV.op (OV.step gno (Step.assign rfl) rfl ?_)
        refine RV.nil ?_
        refine KV.then_n ?_
        refine KV.env [(0, _), (1, _), (2, _), (7, _)] ⟨rfl, rfl, rfl, rfl, trivial⟩ ?_
        refine KV.sel [0, 0, 0, 0, 0] [_, _, _, _, _] rfl ?_
        exact KV.loopI (z := j) (j + 1) ⟨by omega, fun k hk => by by_cases e : k = j; (subst e; intro hit; first | exact hh hit.2 | exact hz hit.1); exact hinv.2 k (by omega)⟩ (by omega) ⟨rfl, rfl, rfl, rfl, trivial⟩ (fun _ h => h)
    · -- False
      refine RV.op (OV.step gno (Step.move rfl) rfl ?_)
      refine RV.op (OV.skip rfl rfl ?_)
      refine RV.op (OV.skip rfl rfl ?_)
      refine RV.op (OV.skip rfl rfl ?_)
      refine RV.op (OV.skip rfl rfl ?_)
      refine RV.op (OV.skip rfl rfl ?_)
      refine RV.op (OV.skip rfl rfl ?_)
      refine RV.op (OV.skip rfl rfl ?_)
      refine RV.op (OV.skip rfl rfl ?_)
      refine RV.op (OV.skip rfl rfl ?_)
      refine RV.op (OV.skip rfl rfl ?_)
      refine RV.op (OV.step gno (Step.pick_f rfl rfl) rfl ?_)
      refine RV.nil ?_
      refine KV.then_n ?_
      refine KV.env [(0, _), (1, _), (2, _), (7, _), (38, _)] ⟨rfl, rfl, rfl, rfl, rfl, trivial⟩ ?_
      refine CV.cond_f rfl ?_
      refine CV.skip ?_
      refine KV.block_n ?_
      refine KV.then_n ?_
      refine KV.env [(0, _), (1, _), (2, _), (7, _)] ⟨rfl, rfl, rfl, rfl, trivial⟩ ?_
      -- region 3 iospace.go:73
      refine CV.region ?_
      refine RV.op (OV.step gno (Step.move rfl) rfl ?_)
      (first | refine RV.op (OV.step gno (Step.add rfl rfl (wI64 (by omega) (by omega))) rfl ?_) | refine RV.op (OV.step gno (Step.add rfl rfl rfl) rfl ?_))
      refine RV.op (OV.step gno (Step.assign rfl) rfl ?_)
      refine RV.nil ?_
      refine KV.then_n ?_
      refine KV.env [(0, _), (1, _), (2, _), (7, _)] ⟨rfl, rfl, rfl, rfl, trivial⟩ ?_
      refine KV.sel [0, 0, 0, 0, 0] [_, _, _, _, _] rfl ?_
      exact KV.loopI (z := j) (j + 1) ⟨by omega, fun k hk => by by_cases e : k = j; (subst e; intro hit; first | exact hh hit.2 | exact hz hit.1); exact hinv.2 k (by omega)⟩ (by omega) ⟨rfl, rfl, rfl, rfl, trivial⟩ (fun _ h => h)
  · -- False
    refine RV.nil ?_
    refine KV.then_n ?_
    refine KV.env [(0, _), (1, _), (2, _), (7, _), (14, _)] ⟨rfl, rfl, rfl, rfl, rfl, trivial⟩ ?_
    refine CV.cond_f rfl ?_
    refine CV.exit ?_
    refine KV.then_exit ?_
    refine KV.then_exit ?_
    refine KV.block_hit ?_
    refine KV.then_n ?_
    refine KV.env [] trivial ?_
    refine CV.seq ?_
    -- region 6 iospace.go:78
    refine CV.region ?_
    refine RV.op (OV.step gno (Step.assign rfl) rfl ?_)
    refine RV.nil ?_
    refine KV.then_n ?_
    refine KV.env [(6, _)] ⟨rfl, trivial⟩ ?_
    refine CV.ret ?_
    -- return at r6
    refine KV.sel [0, 0, 0, 0, 0] [_, _, _, _, _] rfl ?_
    exact KV.ret1 rfl rfl _ (fun _ h => h) ⟨by rw [fR_no fun k hk => hinv.2 k (by omega)], rfl⟩
end Go.Proofs.Ythdpojggdodpfaa
