/-
  Walks, part 1.
-/
import Derived.Test.YthdpojggdodpfaaTabs
import Derived.Test.YthdpojggdodpfaaMdA
set_option linter.unusedSimpArgs false
set_option linter.unusedVariables false
namespace Go.Proofs.Ythdpojggdodpfaa
open Go.Sv Go.Ios
set_option maxRecDepth 100000 in
set_option maxHeartbeats 1000000 in
theorem mod_fn (v : Int) (n : Nat) (hn : 0 < n) (hn2 : n ≤ 1000000) : FxP Try.prog 10 [.int .i64 v, .int .i64 n] (.int .i64 (modM v n)) := by
  refine Sv.FxP.body Try.func10 rfl T10 rfl ?_
  intro wp
  refine KV.env [(0, _), (1, _)] ⟨rfl, rfl, trivial⟩ ?_
  refine CV.seq ?_
  -- region 0 help.go:60
  refine CV.region ?_
  refine RV.op (OV.step gno (Step.assign rfl) rfl ?_)
  refine RV.nil ?_
  refine KV.then_n ?_
  refine KV.env [(0, _), (1, _)] ⟨rfl, rfl, trivial⟩ ?_
  refine CV.seq ?_
  -- region 1 help.go:60
  refine CV.region ?_
  refine RV.op (OV.step gno (Step.move rfl) rfl ?_)
  refine RV.op (OV.step gno (Step.convI Try.underlying3 Try.underlying72 rfl (rfl)) rfl ?_)
  refine RV.op (OV.step gno (Step.move rfl) rfl ?_)
  refine RV.op (OV.step gno (Step.convI Try.underlying3 Try.underlying72 rfl (wU64 (by omega) (by omega))) rfl ?_)
  refine RV.op (OV.step gno (Step.rem rfl rfl (by omega) (rfl)) rfl ?_)
  refine RV.op (OV.step gno (Step.convI Try.underlying72 Try.underlying3 rfl (wI64 (by have := modT v hn; omega) (by have := modT v hn; omega))) rfl ?_)
  refine RV.op (OV.step gno (Step.assign rfl) rfl ?_)
  refine RV.nil ?_
  refine KV.then_n ?_
  refine KV.env [(4, _)] ⟨rfl, trivial⟩ ?_
  refine CV.ret ?_
  -- return at r1
  exact KV.retP1 rfl rfl (by rw [modM_t v hn])

set_option maxRecDepth 100000 in
set_option maxHeartbeats 1000000 in
theorem validSpace_fn (x : Int) : FxP Try.prog 23 [.int .i64 x] (.bool (decide (0 ≤ x ∧ x < 3))) := by
  refine Sv.FxP.body Try.func23 rfl T23 rfl ?_
  intro wp
  refine KV.env [(0, _)] ⟨rfl, trivial⟩ ?_
  refine CV.seq ?_
  -- region 0 iospace.go:40
  refine CV.region ?_
  refine RV.op (OV.step gno (Step.assign rfl) rfl ?_)
  refine RV.nil ?_
  refine KV.then_n ?_
  refine KV.env [(0, _)] ⟨rfl, trivial⟩ ?_
  refine CV.seq ?_
  -- region 1 iospace.go:40
  refine CV.region ?_
  refine RV.op (OV.step gno (Step.move rfl) rfl ?_)
  refine RV.op (OV.split gno (Step.geq rfl rfl) rfl (fun cc1 => ?_) (fun cc1 => ?_))
  · -- True
    refine RV.op (OV.step gno (Step.move rfl) rfl ?_)
    refine RV.op (OV.step (gyes rfl) (Step.move rfl) rfl ?_)
    refine RV.op (OV.split (gyes rfl) (Step.lss rfl rfl) rfl (fun cc2 => ?_) (fun cc2 => ?_))
    · -- True
      refine RV.op (OV.step gno (Step.pick_t rfl rfl) rfl ?_)
      refine RV.op (OV.step gno (Step.assign rfl) rfl ?_)
      refine RV.nil ?_
      refine KV.then_n ?_
      refine KV.env [(2, _)] ⟨rfl, trivial⟩ ?_
      refine CV.ret ?_
      -- return at r1
      exact KV.retP1 rfl rfl (by first | rw [decide_eq_true (show 0 ≤ x ∧ x < 3 by omega)] | rw [decide_eq_false (show ¬ (0 ≤ x ∧ x < 3) by omega)])
    · -- False
      refine RV.op (OV.step gno (Step.pick_t rfl rfl) rfl ?_)
      refine RV.op (OV.step gno (Step.assign rfl) rfl ?_)
      refine RV.nil ?_
      refine KV.then_n ?_
      refine KV.env [(2, _)] ⟨rfl, trivial⟩ ?_
      refine CV.ret ?_
      -- return at r1
      exact KV.retP1 rfl rfl (by first | rw [decide_eq_true (show 0 ≤ x ∧ x < 3 by omega)] | rw [decide_eq_false (show ¬ (0 ≤ x ∧ x < 3) by omega)])
  · -- False
    refine RV.op (OV.step gno (Step.move rfl) rfl ?_)
    refine RV.op (OV.skip rfl rfl ?_)
    refine RV.op (OV.skip rfl rfl ?_)
    refine RV.op (OV.step gno (Step.pick_f rfl rfl) rfl ?_)
    refine RV.op (OV.step gno (Step.assign rfl) rfl ?_)
    refine RV.nil ?_
    refine KV.then_n ?_
    refine KV.env [(2, _)] ⟨rfl, trivial⟩ ?_
    refine CV.ret ?_
    -- return at r1
    exact KV.retP1 rfl rfl (by first | rw [decide_eq_true (show 0 ≤ x ∧ x < 3 by omega)] | rw [decide_eq_false (show ¬ (0 ≤ x ∧ x < 3) by omega)])

set_option maxRecDepth 100000 in
set_option maxHeartbeats 1000000 in
theorem validOwner_fn (x : Int) : FxP Try.prog 25 [.int .i64 x] (.bool (decide (0 ≤ x ∧ x < 256))) := by
  refine Sv.FxP.body Try.func25 rfl T25 rfl ?_
  intro wp
  refine KV.env [(0, _)] ⟨rfl, trivial⟩ ?_
  refine CV.seq ?_
  -- region 0 iospace.go:42
  refine CV.region ?_
  refine RV.op (OV.step gno (Step.assign rfl) rfl ?_)
  refine RV.nil ?_
  refine KV.then_n ?_
  refine KV.env [(0, _)] ⟨rfl, trivial⟩ ?_
  refine CV.seq ?_
  -- region 1 iospace.go:42
  refine CV.region ?_
  refine RV.op (OV.step gno (Step.move rfl) rfl ?_)
  refine RV.op (OV.split gno (Step.geq rfl rfl) rfl (fun cc1 => ?_) (fun cc1 => ?_))
  · -- True
    refine RV.op (OV.step gno (Step.move rfl) rfl ?_)
    refine RV.op (OV.step (gyes rfl) (Step.move rfl) rfl ?_)
    refine RV.op (OV.split (gyes rfl) (Step.lss rfl rfl) rfl (fun cc2 => ?_) (fun cc2 => ?_))
    · -- True
      refine RV.op (OV.step gno (Step.pick_t rfl rfl) rfl ?_)
      refine RV.op (OV.step gno (Step.assign rfl) rfl ?_)
      refine RV.nil ?_
      refine KV.then_n ?_
      refine KV.env [(2, _)] ⟨rfl, trivial⟩ ?_
      refine CV.ret ?_
      -- return at r1
      exact KV.retP1 rfl rfl (by first | rw [decide_eq_true (show 0 ≤ x ∧ x < 256 by omega)] | rw [decide_eq_false (show ¬ (0 ≤ x ∧ x < 256) by omega)])
    · -- False
      refine RV.op (OV.step gno (Step.pick_t rfl rfl) rfl ?_)
      refine RV.op (OV.step gno (Step.assign rfl) rfl ?_)
      refine RV.nil ?_
      refine KV.then_n ?_
      refine KV.env [(2, _)] ⟨rfl, trivial⟩ ?_
      refine CV.ret ?_
      -- return at r1
      exact KV.retP1 rfl rfl (by first | rw [decide_eq_true (show 0 ≤ x ∧ x < 256 by omega)] | rw [decide_eq_false (show ¬ (0 ≤ x ∧ x < 256) by omega)])
  · -- False
    refine RV.op (OV.step gno (Step.move rfl) rfl ?_)
    refine RV.op (OV.skip rfl rfl ?_)
    refine RV.op (OV.skip rfl rfl ?_)
    refine RV.op (OV.step gno (Step.pick_f rfl rfl) rfl ?_)
    refine RV.op (OV.step gno (Step.assign rfl) rfl ?_)
    refine RV.nil ?_
    refine KV.then_n ?_
    refine KV.env [(2, _)] ⟨rfl, trivial⟩ ?_
    refine CV.ret ?_
    -- return at r1
    exact KV.retP1 rfl rfl (by first | rw [decide_eq_true (show 0 ≤ x ∧ x < 256 by omega)] | rw [decide_eq_false (show ¬ (0 ≤ x ∧ x < 256) by omega)])

set_option maxRecDepth 100000 in
set_option maxHeartbeats 1000000 in
theorem last_fn (b l : Int) {w : World} : Fx Try.prog 31 [.agg #[.int .u64 b, .int .u64 l]] w [] no (fun v L => v = .int .u64 (lastW b l) ∧ L = []) := by
  refine Sv.Fx.body Try.func31 rfl T31 rfl ?_
  intro I hro hI
  refine KV.env [(0, _)] ⟨rfl, trivial⟩ ?_
  refine CV.seq ?_
  -- region 0 iospace.go:49
  refine CV.region ?_
  refine RV.op (OV.box (t := 32) #[_, _] rfl rfl gno rfl (fun b0_0 => ?_))
  refine RV.op (OV.step gno (Step.assign rfl) rfl ?_)
  refine RV.nil ?_
  refine KV.then_n ?_
  refine KV.env [(1, _)] ⟨rfl, trivial⟩ ?_
  refine CV.seq ?_
  -- region 1 iospace.go:49
  refine CV.region ?_
  refine RV.op (OV.step gno (Step.fieldAddr rfl (F32_0 _ _)) rfl ?_)
  refine RV.op (OV.step gno (Step.load Try.underlying22 rfl rfl (fun w h => h.cell 0 rfl rfl)) rfl ?_)
  refine RV.op (OV.step gno (Step.fieldAddr rfl (F32_1 _ _)) rfl ?_)
  refine RV.op (OV.step gno (Step.load Try.underlying22 rfl rfl (fun w h => h.cell 0 rfl rfl)) rfl ?_)
  refine RV.op (OV.step gno (Step.sub rfl rfl (rfl)) rfl ?_)
  refine RV.op (OV.step gno (Step.add rfl rfl (rfl)) rfl ?_)
  refine RV.op (OV.step gno (Step.assign rfl) rfl ?_)
  refine RV.nil ?_
  refine KV.then_n ?_
  refine KV.env [(2, _)] ⟨rfl, trivial⟩ ?_
  refine CV.ret ?_
  -- return at r1
  refine KV.sel [] [] rfl ?_
  exact KV.ret1 rfl rfl _ (fun _ h => h) ⟨rfl, rfl⟩

set_option maxRecDepth 100000 in
set_option maxHeartbeats 1000000 in
theorem validRange_fn (b l : Int) (hb : isU b) {w : World} : Fx Try.prog 24 [.agg #[.int .u64 b, .int .u64 l]] w [] no (fun v L => v = .bool (decide (okR b l)) ∧ L = []) := by
  refine Sv.Fx.body Try.func24 rfl T24 rfl ?_
  intro I hro hI
  refine KV.env [(0, _)] ⟨rfl, trivial⟩ ?_
  refine CV.seq ?_
  -- region 0 iospace.go:44
  refine CV.region ?_
  refine RV.op (OV.box (t := 32) #[_, _] rfl rfl gno rfl (fun b0_0 => ?_))
  refine RV.op (OV.step gno (Step.assign rfl) rfl ?_)
  refine RV.nil ?_
  refine KV.then_n ?_
  refine KV.env [(1, _)] ⟨rfl, trivial⟩ ?_
  refine CV.seq ?_
  -- region 1 iospace.go:45
  refine CV.any (Hp I w [Blk b0_0 (.cells #[.int .u64 b, .int .u64 l] 32 (0, 0))]) (by kernel_rfl) (fun _ h => h.drew) 16 rfl ?_
  refine AV.take 0 #[true, false, false, false, false, false, false, false, false, false, false, false, false, false, false, false] rfl (by kernel_rfl) (by kernel_rfl) (by kernel_rfl) (fun _ _ _ h => h) gno (Step.fieldAddr rfl (F32_1 _ _)) rfl (fun _ h => h.sel [0] rfl) (by kernel_rfl) ?_
  refine AV.take 1 #[true, true, false, false, false, false, false, false, false, false, false, false, false, false, false, false] rfl (by kernel_rfl) (by kernel_rfl) (by kernel_rfl) (fun _ _ _ h => h) gno (Step.load Try.underlying22 rfl rfl (fun w h => h.cell 0 rfl rfl)) rfl (fun _ h => h.sel [0] rfl) (by kernel_rfl) ?_
  refine AV.take 2 #[true, true, true, false, false, false, false, false, false, false, false, false, false, false, false, false] rfl (by kernel_rfl) (by kernel_rfl) (by kernel_rfl) (fun _ _ _ h => h) gno (Step.geq rfl rfl) rfl (fun _ h => h.sel [0] rfl) (by kernel_rfl) ?_
  refine AV.take 3 #[true, true, true, true, false, false, false, false, false, false, false, false, false, false, false, false] rfl (by kernel_rfl) (by kernel_rfl) (by kernel_rfl) (fun _ _ _ h => h) gno (Step.move rfl) rfl (fun _ h => h.sel [0] rfl) (by kernel_rfl) ?_
  refine KV.cases 6 rfl (fun cc1 => ?_) (fun cc1 => ?_)
  · -- True
    have e1 := of_decide_eq_true cc1
    refine AV.take 4 #[true, true, true, true, true, false, false, false, false, false, false, false, false, false, false, false] rfl (by kernel_rfl) (by kernel_rfl) (by kernel_rfl) (fun _ _ _ h => h) (gyes rfl) (Step.fieldAddr rfl (F32_1 _ _)) rfl (fun _ h => h.sel [0] rfl) (by kernel_rfl) ?_
    refine AV.take 5 #[true, true, true, true, true, true, false, false, false, false, false, false, false, false, false, false] rfl (by kernel_rfl) (by kernel_rfl) (by kernel_rfl) (fun _ _ _ h => h) (gyes rfl) (Step.load Try.underlying22 rfl rfl (fun w h => h.cell 0 rfl rfl)) rfl (fun _ h => h.sel [0] rfl) (by kernel_rfl) ?_
    refine AV.take 6 #[true, true, true, true, true, true, true, false, false, false, false, false, false, false, false, false] rfl (by kernel_rfl) (by kernel_rfl) (by kernel_rfl) (fun _ _ _ h => h) (gyes rfl) (Step.leq rfl rfl) rfl (fun _ h => h.sel [0] rfl) (by kernel_rfl) ?_
    refine AV.take 7 #[true, true, true, true, true, true, true, true, false, false, false, false, false, false, false, false] rfl (by kernel_rfl) (by kernel_rfl) (by kernel_rfl) (fun _ _ _ h => h) gno (Step.pick_t rfl rfl) rfl (fun _ h => h.sel [0] rfl) (by kernel_rfl) ?_
    refine AV.take 8 #[true, true, true, true, true, true, true, true, true, false, false, false, false, false, false, false] rfl (by kernel_rfl) (by kernel_rfl) (by kernel_rfl) (fun _ _ _ h => h) gno (Step.move rfl) rfl (fun _ h => h.sel [0] rfl) (by kernel_rfl) ?_
    refine KV.cases 11 rfl (fun cc2 => ?_) (fun cc2 => ?_)
    · -- True
      have e2 := of_decide_eq_true cc2
      refine AV.take 9 #[true, true, true, true, true, true, true, true, true, true, false, false, false, false, false, false] rfl (by kernel_rfl) (by kernel_rfl) (by kernel_rfl) (fun _ _ _ h => h) (gyes rfl) (Step.fieldAddr rfl (F32_0 _ _)) rfl (fun _ h => h.sel [0] rfl) (by kernel_rfl) ?_
      refine AV.take 10 #[true, true, true, true, true, true, true, true, true, true, true, false, false, false, false, false] rfl (by kernel_rfl) (by kernel_rfl) (by kernel_rfl) (fun _ _ _ h => h) (gyes rfl) (Step.load Try.underlying22 rfl rfl (fun w h => h.cell 0 rfl rfl)) rfl (fun _ h => h.sel [0] rfl) (by kernel_rfl) ?_
      refine AV.take 11 #[true, true, true, true, true, true, true, true, true, true, true, true, false, false, false, false] rfl (by kernel_rfl) (by kernel_rfl) (by kernel_rfl) (fun _ _ _ h => h) (gyes rfl) (Step.loadN _ Try.underlying32 rfl I32 rfl rfl (fun w h => h.cells 0 rfl)) rfl (fun _ h => h.sel [0] rfl) (by kernel_rfl) ?_
      refine AV.all [12] (by kernel_rfl) (by decide) ?_
      refine ⟨⟨_, rfl, ?_⟩, trivial⟩
      · -- 12 comes up
        refine OV.call [] (F := [_]) Try.func31 B31 N31 rfl rfl (fun w h => last_fn b l) (fun _ hb => hb.elim) (gyes rfl) rfl (fun v L' hp => ?_)
        obtain ⟨rfl, rfl⟩ := hp
        simp only [List.append_nil]
        refine AV.next #[true, true, true, true, true, true, true, true, true, true, true, true, true, false, false, false] (by kernel_rfl) (fun _ h => h.sel [0] rfl) ?_
        refine AV.take 13 #[true, true, true, true, true, true, true, true, true, true, true, true, true, true, false, false] rfl (by kernel_rfl) (by kernel_rfl) (by kernel_rfl) (fun _ _ _ h => h) (gyes rfl) (Step.leq rfl rfl) rfl (fun _ h => h.sel [0] rfl) (by kernel_rfl) ?_
        refine AV.take 14 #[true, true, true, true, true, true, true, true, true, true, true, true, true, true, true, false] rfl (by kernel_rfl) (by kernel_rfl) (by kernel_rfl) (fun _ _ _ h => h) gno (Step.pick_t rfl rfl) rfl (fun _ h => h.sel [0] rfl) (by kernel_rfl) ?_
        refine AV.take 15 #[true, true, true, true, true, true, true, true, true, true, true, true, true, true, true, true] rfl (by kernel_rfl) (by kernel_rfl) (by kernel_rfl) (fun _ _ _ h => h) gno (Step.assign rfl) rfl (fun _ h => h.sel [0] rfl) (by kernel_rfl) ?_
        refine AV.done (by kernel_rfl) ?_
        refine KV.then_n ?_
        refine KV.env [(2, _)] ⟨rfl, trivial⟩ ?_
        refine CV.ret ?_
        -- return at r1
        refine KV.sel [] [] rfl ?_
        first | (refine KV.ret1 rfl rfl _ (fun _ h => h) ⟨?_, rfl⟩; congr 1; exact decide_eq_decide.2 (okR_iff hb (by omega) (by omega))) | (refine KV.ret1 rfl rfl _ (fun _ h => h) ⟨?_, rfl⟩; rw [decide_eq_false (show ¬ okR b l by unfold okR; omega)])
    · -- False
      have e2 := of_decide_eq_false cc2
      refine AV.takeSkip 9 #[true, true, true, true, true, true, true, true, true, true, false, false, false, false, false, false] rfl (by kernel_rfl) (by kernel_rfl) (by kernel_rfl) (fun _ _ _ h => h) rfl rfl (fun _ h => h.sel [0] rfl) (by kernel_rfl) ?_
      refine AV.takeSkip 10 #[true, true, true, true, true, true, true, true, true, true, true, false, false, false, false, false] rfl (by kernel_rfl) (by kernel_rfl) (by kernel_rfl) (fun _ _ _ h => h) rfl rfl (fun _ h => h.sel [0] rfl) (by kernel_rfl) ?_
      refine AV.takeSkip 11 #[true, true, true, true, true, true, true, true, true, true, true, true, false, false, false, false] rfl (by kernel_rfl) (by kernel_rfl) (by kernel_rfl) (fun _ _ _ h => h) rfl rfl (fun _ h => h.sel [0] rfl) (by kernel_rfl) ?_
      refine AV.takeSkip 12 #[true, true, true, true, true, true, true, true, true, true, true, true, true, false, false, false] rfl (by kernel_rfl) (by kernel_rfl) (by kernel_rfl) (fun _ _ _ h => h) rfl rfl (fun _ h => h.sel [0] rfl) (by kernel_rfl) ?_
      refine AV.takeSkip 13 #[true, true, true, true, true, true, true, true, true, true, true, true, true, true, false, false] rfl (by kernel_rfl) (by kernel_rfl) (by kernel_rfl) (fun _ _ _ h => h) rfl rfl (fun _ h => h.sel [0] rfl) (by kernel_rfl) ?_
      refine AV.take 14 #[true, true, true, true, true, true, true, true, true, true, true, true, true, true, true, false] rfl (by kernel_rfl) (by kernel_rfl) (by kernel_rfl) (fun _ _ _ h => h) gno (Step.pick_f rfl rfl) rfl (fun _ h => h.sel [0] rfl) (by kernel_rfl) ?_
      refine AV.take 15 #[true, true, true, true, true, true, true, true, true, true, true, true, true, true, true, true] rfl (by kernel_rfl) (by kernel_rfl) (by kernel_rfl) (fun _ _ _ h => h) gno (Step.assign rfl) rfl (fun _ h => h.sel [0] rfl) (by kernel_rfl) ?_
      refine AV.done (by kernel_rfl) ?_
      refine KV.then_n ?_
      refine KV.env [(2, _)] ⟨rfl, trivial⟩ ?_
      refine CV.ret ?_
      -- return at r1
      refine KV.sel [] [] rfl ?_
      first | (refine KV.ret1 rfl rfl _ (fun _ h => h) ⟨?_, rfl⟩; congr 1; exact decide_eq_decide.2 (okR_iff hb (by omega) (by omega))) | (refine KV.ret1 rfl rfl _ (fun _ h => h) ⟨?_, rfl⟩; rw [decide_eq_false (show ¬ okR b l by unfold okR; omega)])
  · -- False
    have e1 := of_decide_eq_false cc1
    refine AV.takeSkip 4 #[true, true, true, true, true, false, false, false, false, false, false, false, false, false, false, false] rfl (by kernel_rfl) (by kernel_rfl) (by kernel_rfl) (fun _ _ _ h => h) rfl rfl (fun _ h => h.sel [0] rfl) (by kernel_rfl) ?_
    refine AV.takeSkip 5 #[true, true, true, true, true, true, false, false, false, false, false, false, false, false, false, false] rfl (by kernel_rfl) (by kernel_rfl) (by kernel_rfl) (fun _ _ _ h => h) rfl rfl (fun _ h => h.sel [0] rfl) (by kernel_rfl) ?_
    refine AV.takeSkip 6 #[true, true, true, true, true, true, true, false, false, false, false, false, false, false, false, false] rfl (by kernel_rfl) (by kernel_rfl) (by kernel_rfl) (fun _ _ _ h => h) rfl rfl (fun _ h => h.sel [0] rfl) (by kernel_rfl) ?_
    refine AV.take 7 #[true, true, true, true, true, true, true, true, false, false, false, false, false, false, false, false] rfl (by kernel_rfl) (by kernel_rfl) (by kernel_rfl) (fun _ _ _ h => h) gno (Step.pick_f rfl rfl) rfl (fun _ h => h.sel [0] rfl) (by kernel_rfl) ?_
    refine AV.take 8 #[true, true, true, true, true, true, true, true, true, false, false, false, false, false, false, false] rfl (by kernel_rfl) (by kernel_rfl) (by kernel_rfl) (fun _ _ _ h => h) gno (Step.move rfl) rfl (fun _ h => h.sel [0] rfl) (by kernel_rfl) ?_
    refine AV.takeSkip 9 #[true, true, true, true, true, true, true, true, true, true, false, false, false, false, false, false] rfl (by kernel_rfl) (by kernel_rfl) (by kernel_rfl) (fun _ _ _ h => h) rfl rfl (fun _ h => h.sel [0] rfl) (by kernel_rfl) ?_
    refine AV.takeSkip 10 #[true, true, true, true, true, true, true, true, true, true, true, false, false, false, false, false] rfl (by kernel_rfl) (by kernel_rfl) (by kernel_rfl) (fun _ _ _ h => h) rfl rfl (fun _ h => h.sel [0] rfl) (by kernel_rfl) ?_
    refine AV.takeSkip 11 #[true, true, true, true, true, true, true, true, true, true, true, true, false, false, false, false] rfl (by kernel_rfl) (by kernel_rfl) (by kernel_rfl) (fun _ _ _ h => h) rfl rfl (fun _ h => h.sel [0] rfl) (by kernel_rfl) ?_
    refine AV.takeSkip 12 #[true, true, true, true, true, true, true, true, true, true, true, true, true, false, false, false] rfl (by kernel_rfl) (by kernel_rfl) (by kernel_rfl) (fun _ _ _ h => h) rfl rfl (fun _ h => h.sel [0] rfl) (by kernel_rfl) ?_
    refine AV.takeSkip 13 #[true, true, true, true, true, true, true, true, true, true, true, true, true, true, false, false] rfl (by kernel_rfl) (by kernel_rfl) (by kernel_rfl) (fun _ _ _ h => h) rfl rfl (fun _ h => h.sel [0] rfl) (by kernel_rfl) ?_
    refine AV.take 14 #[true, true, true, true, true, true, true, true, true, true, true, true, true, true, true, false] rfl (by kernel_rfl) (by kernel_rfl) (by kernel_rfl) (fun _ _ _ h => h) gno (Step.pick_f rfl rfl) rfl (fun _ h => h.sel [0] rfl) (by kernel_rfl) ?_
    refine AV.take 15 #[true, true, true, true, true, true, true, true, true, true, true, true, true, true, true, true] rfl (by kernel_rfl) (by kernel_rfl) (by kernel_rfl) (fun _ _ _ h => h) gno (Step.assign rfl) rfl (fun _ h => h.sel [0] rfl) (by kernel_rfl) ?_
    refine AV.done (by kernel_rfl) ?_
    refine KV.then_n ?_
    refine KV.env [(2, _)] ⟨rfl, trivial⟩ ?_
    refine CV.ret ?_
    -- return at r1
    refine KV.sel [] [] rfl ?_
    first | (refine KV.ret1 rfl rfl _ (fun _ h => h) ⟨?_, rfl⟩; congr 1; exact decide_eq_decide.2 (okR_iff hb (by omega) (by omega))) | (refine KV.ret1 rfl rfl _ (fun _ h => h) ⟨?_, rfl⟩; rw [decide_eq_false (show ¬ okR b l by unfold okR; omega)])

set_option maxRecDepth 100000 in
set_option maxHeartbeats 1000000 in
theorem overlap_fn {b l b2 l2 : Int} (hb : isU b) (hl : okR b l) (hb2 : isU b2) (hl2 : okR b2 l2) {w : World} : Fx Try.prog 27 [.agg #[.int .u64 b, .int .u64 l], .agg #[.int .u64 b2, .int .u64 l2]] w [] no (fun v L => v = .bool (decide (ovl b l b2 l2)) ∧ L = []) := by
  refine Sv.Fx.body Try.func27 rfl T27 rfl ?_
  intro I hro hI
  refine KV.env [(0, _), (1, _)] ⟨rfl, rfl, trivial⟩ ?_
  refine CV.seq ?_
  -- region 0 iospace.go:52
  refine CV.region ?_
  refine RV.op (OV.box (t := 32) #[_, _] rfl rfl gno rfl (fun b0_0 => ?_))
  refine RV.op (OV.box (t := 32) #[_, _] rfl rfl gno rfl (fun b0_1 => ?_))
  refine RV.op (OV.step gno (Step.assign rfl) rfl ?_)
  refine RV.nil ?_
  refine KV.then_n ?_
  refine KV.env [(2, _), (3, _)] ⟨rfl, rfl, trivial⟩ ?_
  refine CV.seq ?_
  -- region 1 iospace.go:52
  refine CV.any (Hp I w [Blk b0_0 (.cells #[.int .u64 b, .int .u64 l] 32 (0, 0)), Blk b0_1 (.cells #[.int .u64 b2, .int .u64 l2] 32 (0, 0))]) (by kernel_rfl) (fun _ h => h.drew) 13 rfl ?_
  refine AV.take 0 #[true, false, false, false, false, false, false, false, false, false, false, false, false] rfl (by kernel_rfl) (by kernel_rfl) (by kernel_rfl) (fun _ _ _ h => h) gno (Step.fieldAddr rfl (F32_0 _ _)) rfl (fun _ h => h.sel [0, 0] rfl) (by kernel_rfl) ?_
  refine AV.take 1 #[true, true, false, false, false, false, false, false, false, false, false, false, false] rfl (by kernel_rfl) (by kernel_rfl) (by kernel_rfl) (fun _ _ _ h => h) gno (Step.load Try.underlying22 rfl rfl (fun w h => h.cell 0 rfl rfl)) rfl (fun _ h => h.sel [0, 0] rfl) (by kernel_rfl) ?_
  refine AV.take 2 #[true, true, true, false, false, false, false, false, false, false, false, false, false] rfl (by kernel_rfl) (by kernel_rfl) (by kernel_rfl) (fun _ _ _ h => h) gno (Step.loadN _ Try.underlying32 rfl I32 rfl rfl (fun w h => h.cells 1 rfl)) rfl (fun _ h => h.sel [0, 0] rfl) (by kernel_rfl) ?_
  refine AV.all [3] (by kernel_rfl) (by decide) ?_
  refine ⟨⟨_, rfl, ?_⟩, trivial⟩
  · -- 3 comes up
    refine OV.call [] (F := [_, _]) Try.func31 B31 N31 rfl rfl (fun w h => last_fn b2 l2) (fun _ hb => hb.elim) gno rfl (fun v L' hp => ?_)
    obtain ⟨rfl, rfl⟩ := hp
    simp only [List.append_nil]
    refine AV.next #[true, true, true, true, false, false, false, false, false, false, false, false, false] (by kernel_rfl) (fun _ h => h.sel [0, 0] rfl) ?_
    refine AV.take 4 #[true, true, true, true, true, false, false, false, false, false, false, false, false] rfl (by kernel_rfl) (by kernel_rfl) (by kernel_rfl) (fun _ _ _ h => h) gno (Step.leq rfl rfl) rfl (fun _ h => h.sel [0, 0] rfl) (by kernel_rfl) ?_
    refine AV.take 5 #[true, true, true, true, true, true, false, false, false, false, false, false, false] rfl (by kernel_rfl) (by kernel_rfl) (by kernel_rfl) (fun _ _ _ h => h) gno (Step.move rfl) rfl (fun _ h => h.sel [0, 0] rfl) (by kernel_rfl) ?_
    refine KV.cases 10 rfl (fun cc1 => ?_) (fun cc1 => ?_)
    · -- True
      have e1 := of_decide_eq_true cc1
      refine AV.take 6 #[true, true, true, true, true, true, true, false, false, false, false, false, false] rfl (by kernel_rfl) (by kernel_rfl) (by kernel_rfl) (fun _ _ _ h => h) (gyes rfl) (Step.fieldAddr rfl (F32_0 _ _)) rfl (fun _ h => h.sel [0, 0] rfl) (by kernel_rfl) ?_
      refine AV.take 7 #[true, true, true, true, true, true, true, true, false, false, false, false, false] rfl (by kernel_rfl) (by kernel_rfl) (by kernel_rfl) (fun _ _ _ h => h) (gyes rfl) (Step.load Try.underlying22 rfl rfl (fun w h => h.cell 1 rfl rfl)) rfl (fun _ h => h.sel [0, 0] rfl) (by kernel_rfl) ?_
      refine AV.take 8 #[true, true, true, true, true, true, true, true, true, false, false, false, false] rfl (by kernel_rfl) (by kernel_rfl) (by kernel_rfl) (fun _ _ _ h => h) (gyes rfl) (Step.loadN _ Try.underlying32 rfl I32 rfl rfl (fun w h => h.cells 0 rfl)) rfl (fun _ h => h.sel [0, 0] rfl) (by kernel_rfl) ?_
      refine AV.all [9] (by kernel_rfl) (by decide) ?_
      refine ⟨⟨_, rfl, ?_⟩, trivial⟩
      · -- 9 comes up
        refine OV.call [] (F := [_, _]) Try.func31 B31 N31 rfl rfl (fun w h => last_fn b l) (fun _ hb => hb.elim) (gyes rfl) rfl (fun v L' hp => ?_)
        obtain ⟨rfl, rfl⟩ := hp
        simp only [List.append_nil]
        refine AV.next #[true, true, true, true, true, true, true, true, true, true, false, false, false] (by kernel_rfl) (fun _ h => h.sel [0, 0] rfl) ?_
        refine AV.take 10 #[true, true, true, true, true, true, true, true, true, true, true, false, false] rfl (by kernel_rfl) (by kernel_rfl) (by kernel_rfl) (fun _ _ _ h => h) (gyes rfl) (Step.leq rfl rfl) rfl (fun _ h => h.sel [0, 0] rfl) (by kernel_rfl) ?_
        refine AV.take 11 #[true, true, true, true, true, true, true, true, true, true, true, true, false] rfl (by kernel_rfl) (by kernel_rfl) (by kernel_rfl) (fun _ _ _ h => h) gno (Step.pick_t rfl rfl) rfl (fun _ h => h.sel [0, 0] rfl) (by kernel_rfl) ?_
        refine AV.take 12 #[true, true, true, true, true, true, true, true, true, true, true, true, true] rfl (by kernel_rfl) (by kernel_rfl) (by kernel_rfl) (fun _ _ _ h => h) gno (Step.assign rfl) rfl (fun _ h => h.sel [0, 0] rfl) (by kernel_rfl) ?_
        refine AV.done (by kernel_rfl) ?_
        refine KV.then_n ?_
        refine KV.env [(4, _)] ⟨rfl, trivial⟩ ?_
        refine CV.ret ?_
        -- return at r1
        refine KV.sel [] [] rfl ?_
        have q1 := lastW_eq hb hl
        have q2 := lastW_eq hb2 hl2
        first | (refine KV.ret1 rfl rfl _ (fun _ h => h) ⟨?_, rfl⟩; congr 1; exact decide_eq_decide.2 (by unfold ovl; omega)) | (refine KV.ret1 rfl rfl _ (fun _ h => h) ⟨?_, rfl⟩; rw [decide_eq_false (show ¬ ovl b l b2 l2 by unfold ovl; omega)])
    · -- False
      have e1 := of_decide_eq_false cc1
      refine AV.takeSkip 6 #[true, true, true, true, true, true, true, false, false, false, false, false, false] rfl (by kernel_rfl) (by kernel_rfl) (by kernel_rfl) (fun _ _ _ h => h) rfl rfl (fun _ h => h.sel [0, 0] rfl) (by kernel_rfl) ?_
      refine AV.takeSkip 7 #[true, true, true, true, true, true, true, true, false, false, false, false, false] rfl (by kernel_rfl) (by kernel_rfl) (by kernel_rfl) (fun _ _ _ h => h) rfl rfl (fun _ h => h.sel [0, 0] rfl) (by kernel_rfl) ?_
      refine AV.takeSkip 8 #[true, true, true, true, true, true, true, true, true, false, false, false, false] rfl (by kernel_rfl) (by kernel_rfl) (by kernel_rfl) (fun _ _ _ h => h) rfl rfl (fun _ h => h.sel [0, 0] rfl) (by kernel_rfl) ?_
      refine AV.takeSkip 9 #[true, true, true, true, true, true, true, true, true, true, false, false, false] rfl (by kernel_rfl) (by kernel_rfl) (by kernel_rfl) (fun _ _ _ h => h) rfl rfl (fun _ h => h.sel [0, 0] rfl) (by kernel_rfl) ?_
      refine AV.takeSkip 10 #[true, true, true, true, true, true, true, true, true, true, true, false, false] rfl (by kernel_rfl) (by kernel_rfl) (by kernel_rfl) (fun _ _ _ h => h) rfl rfl (fun _ h => h.sel [0, 0] rfl) (by kernel_rfl) ?_
      refine AV.take 11 #[true, true, true, true, true, true, true, true, true, true, true, true, false] rfl (by kernel_rfl) (by kernel_rfl) (by kernel_rfl) (fun _ _ _ h => h) gno (Step.pick_f rfl rfl) rfl (fun _ h => h.sel [0, 0] rfl) (by kernel_rfl) ?_
      refine AV.take 12 #[true, true, true, true, true, true, true, true, true, true, true, true, true] rfl (by kernel_rfl) (by kernel_rfl) (by kernel_rfl) (fun _ _ _ h => h) gno (Step.assign rfl) rfl (fun _ h => h.sel [0, 0] rfl) (by kernel_rfl) ?_
      refine AV.done (by kernel_rfl) ?_
      refine KV.then_n ?_
      refine KV.env [(4, _)] ⟨rfl, trivial⟩ ?_
      refine CV.ret ?_
      -- return at r1
      refine KV.sel [] [] rfl ?_
      have q1 := lastW_eq hb hl
      have q2 := lastW_eq hb2 hl2
      first | (refine KV.ret1 rfl rfl _ (fun _ h => h) ⟨?_, rfl⟩; congr 1; exact decide_eq_decide.2 (by unfold ovl; omega)) | (refine KV.ret1 rfl rfl _ (fun _ h => h) ⟨?_, rfl⟩; rw [decide_eq_false (show ¬ ovl b l b2 l2 by unfold ovl; omega)])
end Go.Proofs.Ythdpojggdodpfaa
